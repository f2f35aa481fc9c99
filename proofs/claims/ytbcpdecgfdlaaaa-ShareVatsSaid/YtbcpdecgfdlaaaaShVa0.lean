/- What the functions of this seat compute: some texts in one. Conditions: those of each law. -/
import Derived.Test.YtbcpdecgfdlaaaaEvSpec
import Derived.Test.YtbcpdecgfdlaaaaFn10
import Derived.Lib.Mul64
/- The arithmetic of dividing 128 bits by 64 bits, digit by digit. Conditions: those of each law. -/
namespace Go.Proofs.Ytbcpdecgfdlaaaa
open Go Go.Proofs.Ytbcpdecgfdlaaaa.Ev
set_option linter.unusedVariables false
set_option linter.unusedSimpArgs false
end Go.Proofs.Ytbcpdecgfdlaaaa
/- What math/bits computes: leading zeros, products, and quotients of 128 bits. Conditions: those of each law. -/
namespace Go.Proofs.Ytbcpdecgfdlaaaa
open Go Go.Proofs.Ytbcpdecgfdlaaaa.Ev
set_option linter.unusedVariables false
set_option linter.unusedSimpArgs false
set_option maxRecDepth 100000
set_option maxHeartbeats 1000000
end Go.Proofs.Ytbcpdecgfdlaaaa
/- What math/bits.Mul64 and Div64 compute. Conditions: those of each law. -/
namespace Go.Proofs.Ytbcpdecgfdlaaaa
open Go Go.Proofs.Ytbcpdecgfdlaaaa.Ev
set_option linter.unusedVariables false
set_option linter.unusedSimpArgs false
set_option maxRecDepth 100000
set_option maxHeartbeats 1000000
theorem i64_nat {n : Nat} (h : n < 9223372036854775808) : IntKind.i64.wrap (n : Int) = (n : Int) := IntWalk.i64_in _ (by omega)
end Go.Proofs.Ytbcpdecgfdlaaaa
/- What package proportion computes of two or three numbers. Conditions: those of each law. -/
namespace Go.Proofs.Ytbcpdecgfdlaaaa
open Go Go.Proofs.Ytbcpdecgfdlaaaa.Ev
set_option linter.unusedVariables false
set_option linter.unusedSimpArgs false
set_option maxRecDepth 100000
set_option maxHeartbeats 1000000
end Go.Proofs.Ytbcpdecgfdlaaaa
/- What package proportion and its reference compute of two or three numbers. Conditions: those of each law. -/
namespace Go.Proofs.Ytbcpdecgfdlaaaa
open Go Go.Proofs.Ytbcpdecgfdlaaaa.Ev
set_option linter.unusedVariables false
set_option linter.unusedSimpArgs false
set_option maxRecDepth 100000
set_option maxHeartbeats 1000000
end Go.Proofs.Ytbcpdecgfdlaaaa
/- What the reference of package proportion computes of two or three numbers. Conditions: those of each law. -/
namespace Go.Proofs.Ytbcpdecgfdlaaaa
open Go Go.Proofs.Ytbcpdecgfdlaaaa.Ev
set_option linter.unusedVariables false
set_option linter.unusedSimpArgs false
set_option maxRecDepth 100000
set_option maxHeartbeats 1000000
end Go.Proofs.Ytbcpdecgfdlaaaa
/- What slices.SortStableFunc does with a slice of the call's own: the small steps. Conditions: those of each law. -/
namespace Go.Proofs.Ytbcpdecgfdlaaaa
open Go Go.Proofs.Ytbcpdecgfdlaaaa.Ev
set_option linter.unusedVariables false
set_option linter.unusedSimpArgs false
set_option maxRecDepth 100000
set_option maxHeartbeats 2000000

/-- One number of a list. -/
def g (xs : List Int) (k : Nat) : Int := (xs[k]?).getD 0
/-- The heap with these numbers in a block. -/
def hS (sl : List Slot) (id : Nat) (xs : List Int) : H := hL (sl.set id (.own (cellsL [.int .i64] xs) 1))
section steps
variable {sl : List Slot} {id n : Nat} (hid : id < sl.length)
include hid
end steps
end Go.Proofs.Ytbcpdecgfdlaaaa
/- What slices.SortStableFunc does with a slice of the call's own: swapping ranges, rotating, inserting. Conditions: those of each law. -/
namespace Go.Proofs.Ytbcpdecgfdlaaaa
open Go Go.Proofs.Ytbcpdecgfdlaaaa.Ev
set_option linter.unusedVariables false
set_option linter.unusedSimpArgs false
set_option maxRecDepth 100000
set_option maxHeartbeats 4000000
section sort
variable {T : Table} {v : V} {sl : List Slot} {id n : Nat} {t : Bool}
end sort
end Go.Proofs.Ytbcpdecgfdlaaaa
/- What slices.SortStableFunc does with a slice of the call's own: inserting. Conditions: those of each law. -/
namespace Go.Proofs.Ytbcpdecgfdlaaaa
open Go Go.Proofs.Ytbcpdecgfdlaaaa.Ev
set_option linter.unusedVariables false
set_option linter.unusedSimpArgs false
set_option maxRecDepth 100000
set_option maxHeartbeats 4000000
section sort
variable {T : Table} {v : V} {sl : List Slot} {id n : Nat} {t : Bool} {D : Int → Prop} {c : Int → Int → Int} {lt : Int → Int → Prop}
end sort
end Go.Proofs.Ytbcpdecgfdlaaaa
/- What slices.SortStableFunc does with a slice of the call's own: merging. Conditions: those of each law. -/
namespace Go.Proofs.Ytbcpdecgfdlaaaa
open Go Go.Proofs.Ytbcpdecgfdlaaaa.Ev
set_option linter.unusedVariables false
set_option linter.unusedSimpArgs false
set_option maxRecDepth 100000
set_option maxHeartbeats 8000000
section sort
variable {T : Table} {v : V} {sl : List Slot} {id n : Nat} {t : Bool} {D : Int → Prop} {c : Int → Int → Int} {lt : Int → Int → Prop}
end sort
end Go.Proofs.Ytbcpdecgfdlaaaa
/- What slices.SortStableFunc does with a slice of the call's own: merging two ordered ranges. Conditions: those of each law. -/
namespace Go.Proofs.Ytbcpdecgfdlaaaa
open Go Go.Proofs.Ytbcpdecgfdlaaaa.Ev
set_option linter.unusedVariables false
set_option linter.unusedSimpArgs false
set_option maxRecDepth 100000
set_option maxHeartbeats 8000000
section sort
variable {T : Table} {v : V} {sl : List Slot} {id n : Nat} {t : Bool} {D : Int → Prop} {c : Int → Int → Int} {lt : Int → Int → Prop}
end sort
end Go.Proofs.Ytbcpdecgfdlaaaa
/- What slices.SortStableFunc does with a slice of the call's own of at most 64 numbers. Conditions: those of each law. -/
namespace Go.Proofs.Ytbcpdecgfdlaaaa
open Go Go.Proofs.Ytbcpdecgfdlaaaa.Ev
set_option linter.unusedVariables false
set_option linter.unusedSimpArgs false
set_option maxRecDepth 100000
set_option maxHeartbeats 8000000
section sort
variable {T : Table} {v : V} {sl : List Slot} {id n : Nat} {t : Bool} {D : Int → Prop} {c : Int → Int → Int} {lt : Int → Int → Prop}
end sort
end Go.Proofs.Ytbcpdecgfdlaaaa
/- The sum of weights. Conditions: those of each law. -/
namespace Go.Proofs.Ytbcpdecgfdlaaaa
open Go Go.Proofs.Ytbcpdecgfdlaaaa.Ev
set_option linter.unusedVariables false
set_option linter.unusedSimpArgs false
set_option maxRecDepth 100000
set_option maxHeartbeats 2000000
end Go.Proofs.Ytbcpdecgfdlaaaa
/- How an amount is divided by weights, in plain numbers. Conditions: those of each law. -/
namespace Go.Proofs.Ytbcpdecgfdlaaaa
open Go Go.Proofs.Ytbcpdecgfdlaaaa.Ev
set_option linter.unusedVariables false
set_option linter.unusedSimpArgs false
set_option maxRecDepth 100000
set_option maxHeartbeats 2000000
/-- The greater rest comes first, then the lesser place. -/
def ltR (rs : List Int) (x y : Int) : Prop := g rs y.toNat < g rs x.toNat ∨ (g rs x.toNat = g rs y.toNat ∧ x < y)
instance (rs : List Int) (x y : Int) : Decidable (ltR rs x y) := by unfold ltR; exact inferInstance
theorem sum_nonneg : ∀ {xs : List Int}, (∀ x ∈ xs, 0 ≤ x) → 0 ≤ xs.sum
  | [], _ => by simp
  | x :: xs, h => by
    have := sum_nonneg (xs := xs) fun y hy => h y (by simp [hy])
    have := h x (by simp)
    simp only [List.sum_cons]; omega
theorem mem_le_sum : ∀ {xs : List Int} {x : Int}, (∀ y ∈ xs, 0 ≤ y) → x ∈ xs → x ≤ xs.sum
  | [], _, _, h => by simp at h
  | y :: xs, x, hn, h => by
    have h1 := sum_nonneg (xs := xs) fun z hz => hn z (by simp [hz])
    have h2 := hn y (by simp)
    simp only [List.sum_cons]
    rcases List.mem_cons.1 h with rfl | h
    · omega
    · have := mem_le_sum (xs := xs) (fun z hz => hn z (by simp [hz])) h
      omega
end Go.Proofs.Ytbcpdecgfdlaaaa
/- Slots of two numbers. Conditions: those of each law. -/
namespace Go.Proofs.Ytbcpdecgfdlaaaa
open Go Go.Proofs.Ytbcpdecgfdlaaaa.Ev
set_option linter.unusedVariables false
set_option linter.unusedSimpArgs false
set_option maxRecDepth 100000
set_option maxHeartbeats 4000000
abbrev j2 : List Leaf := [.int .i64, .int .i64]
abbrev c2 (x : Int × Int) : Slot := .own [.int .i64 x.1, .int .i64 x.2] 2
theorem new_c2 {sl : List Slot} {x : Int × Int} : H.wrs (hL (sl ++ [Slot.own [V.int .i64 0, V.int .i64 0] 2])) (.hp sl.length 2 0) [.int .i64 x.1, .int .i64 x.2] = some (hL (sl ++ [c2 x])) := by
  rw [wrs_own (g := 2) (cs := [V.int .i64 0, V.int .i64 0]) (e := 2) (by simp) rfl (by simp)]
  simp [splice]
theorem rd_c2 {sl : List Slot} {id : Nat} {x : Int × Int} (h : sl[id]? = some (c2 x)) : rdT (.leaf (.int .i64)) (hL sl) (.hp id 2 0) = some x.1 ∧ rdT (.leaf (.int .i64)) (hL sl) (.hp id 2 1) = some x.2 := by
  refine ⟨?_, ?_⟩
  · rw [rd_own (g := 2) h rfl]; rfl
  · rw [rd_own (g := 2) h rfl]; rfl
theorem rds_c2 {sl : List Slot} {id : Nat} {x : Int × Int} (h : sl[id]? = some (c2 x)) : rdT (.agg [.int .i64, .int .i64]) (hL sl) (.hp id 2 0) = some x := by
  rw [rds_hp (by simp), hL_m, h]; rfl
theorem wrs_c2 {sl : List Slot} {id : Nat} {x y : Int × Int} (h : sl[id]? = some (c2 x)) : H.wrs (hL sl) (.hp id 2 0) [.int .i64 y.1, .int .i64 y.2] = some (hL (sl.set id (c2 y))) := by
  rw [wrs_own (g := 2) h rfl (by simp)]; rfl
/-- A loop that goes through 'n' rounds, with what holds ahead of each. -/
theorem iter_upto {S F : Type} {f : S → Option (Stp S F)} (Inv : Nat → S → Prop) (Post : F → Prop) (n : Nat) (hstep : ∀ i s, i < n → Inv i s → ∃ s', f s = some (.more s') ∧ Inv (i + 1) s') (hend : ∀ s, Inv n s → ∃ x, f s = some (.done x) ∧ Post x) :
    ∀ (fuel i : Nat) (s : S), i ≤ n → Inv i s → n - i < fuel → ∃ x, iter fuel f s = some x ∧ Post x
  | 0, _, _, _, _, h => by omega
  | fuel + 1, i, s, hi, hs, h => by
    rcases Nat.lt_or_ge i n with hlt | hge
    · obtain ⟨s', h1, h2⟩ := hstep i s hlt hs
      obtain ⟨x, k1, k2⟩ := iter_upto Inv Post n hstep hend fuel (i + 1) s' (by omega) h2 (by omega)
      exact ⟨x, by simp only [iter, h1, Option.bind_some]; exact k1, k2⟩
    · have : i = n := by omega
      subst this
      obtain ⟨x, h1, h2⟩ := hend s hs
      exact ⟨x, by simp only [iter, h1, Option.bind_some], h2⟩
theorem apart_hp {i j g g' o o' : Nat} (h : i ≠ j) : apartA (.hp i g o) (.hp j g' o') = true := by
  have : Nat.beq i j = false := by
    rw [← Bool.not_eq_true]
    intro e
    exact h (Nat.eq_of_beq_eq_true e)
  simp [apartA, this]
end Go.Proofs.Ytbcpdecgfdlaaaa
/- What Divide of package proportion computes. Conditions: those of each law. -/
namespace Go.Proofs.Ytbcpdecgfdlaaaa
open Go Go.Proofs.Ytbcpdecgfdlaaaa.Ev
set_option linter.unusedVariables false
set_option linter.unusedSimpArgs false
set_option maxRecDepth 100000
set_option maxHeartbeats 4000000
end Go.Proofs.Ytbcpdecgfdlaaaa
/- What Divide of the reference of package proportion computes. Conditions: those of each law. -/
namespace Go.Proofs.Ytbcpdecgfdlaaaa
open Go Go.Proofs.Ytbcpdecgfdlaaaa.Ev
set_option linter.unusedVariables false
set_option linter.unusedSimpArgs false
set_option maxRecDepth 100000
set_option maxHeartbeats 4000000
end Go.Proofs.Ytbcpdecgfdlaaaa
/- What Draw of package mix computes. Conditions: those of each law. -/
namespace Go.Proofs.Ytbcpdecgfdlaaaa
open Go Go.Proofs.Ytbcpdecgfdlaaaa.Ev
set_option linter.unusedVariables false
set_option linter.unusedSimpArgs false
set_option maxRecDepth 100000
set_option maxHeartbeats 4000000
/-- A liquid that can be: its alcohol and its volume in range, no alcohol in no volume. -/
def isPlain (x : Int × Int) : Bool := decide (0 ≤ x.1 ∧ x.1 ≤ 10737418240000 ∧ 0 ≤ x.2 ∧ x.2 ≤ 128849018880000 ∧ (0 < x.2 ∨ x.1 = 0))
theorem isPlain_iff {x : Int × Int} : isPlain x = true ↔ 0 ≤ x.1 ∧ x.1 ≤ 10737418240000 ∧ 0 ≤ x.2 ∧ x.2 ≤ 128849018880000 ∧ (0 < x.2 ∨ x.1 = 0) := by simp [isPlain]
theorem plain_ok (a v : Int) : mix_plainP (a, v) = some (isPlain (a, v)) := by
  unfold mix_plainP mix_plain isPlain
  simp -implicitDefEqProofs only [evs, reduceIte, rdRes, rdTT, rdTy, rdLT, Res.un, TT.un, Ty.un, LT.un, Leaf.un, Leaf.plain, LT.plain, evh, List.replicate, splice, LT.pack, Leaf.pack, Nat.reduceAdd, Nat.reduceSub, Nat.reduceLeDiff, Nat.reduceLT, Nat.reduceEqDiff, LT.lo, Leaf.lo]
  by_cases h1 : 0 ≤ a
  · rw [decide_eq_true h1]
    simp -implicitDefEqProofs only [evs, reduceIte, rdRes, rdTT, rdTy, rdLT, Res.un, TT.un, Ty.un, LT.un, Leaf.un, Leaf.plain, LT.plain, evh, List.replicate, splice, LT.pack, Leaf.pack, Nat.reduceAdd, Nat.reduceSub, Nat.reduceLeDiff, Nat.reduceLT, Nat.reduceEqDiff, LT.lo, Leaf.lo]
    by_cases h2 : a ≤ 10737418240000
    · rw [decide_eq_true h2]
      simp -implicitDefEqProofs only [evs, reduceIte, rdRes, rdTT, rdTy, rdLT, Res.un, TT.un, Ty.un, LT.un, Leaf.un, Leaf.plain, LT.plain, evh, List.replicate, splice, LT.pack, Leaf.pack, Nat.reduceAdd, Nat.reduceSub, Nat.reduceLeDiff, Nat.reduceLT, Nat.reduceEqDiff, LT.lo, Leaf.lo]
      by_cases h3 : 0 ≤ v
      · rw [decide_eq_true h3]
        simp -implicitDefEqProofs only [evs, reduceIte, rdRes, rdTT, rdTy, rdLT, Res.un, TT.un, Ty.un, LT.un, Leaf.un, Leaf.plain, LT.plain, evh, List.replicate, splice, LT.pack, Leaf.pack, Nat.reduceAdd, Nat.reduceSub, Nat.reduceLeDiff, Nat.reduceLT, Nat.reduceEqDiff, LT.lo, Leaf.lo]
        by_cases h4 : v ≤ 128849018880000
        · rw [decide_eq_true h4]
          simp -implicitDefEqProofs only [evs, reduceIte, rdRes, rdTT, rdTy, rdLT, Res.un, TT.un, Ty.un, LT.un, Leaf.un, Leaf.plain, LT.plain, evh, List.replicate, splice, LT.pack, Leaf.pack, Nat.reduceAdd, Nat.reduceSub, Nat.reduceLeDiff, Nat.reduceLT, Nat.reduceEqDiff, LT.lo, Leaf.lo]
          by_cases h5 : 0 < v
          · rw [decide_eq_true h5]
            simp -implicitDefEqProofs only [evs, reduceIte, rdRes, rdTT, rdTy, rdLT, Res.un, TT.un, Ty.un, LT.un, Leaf.un, Leaf.plain, LT.plain, evh, List.replicate, splice, LT.pack, Leaf.pack, Nat.reduceAdd, Nat.reduceSub, Nat.reduceLeDiff, Nat.reduceLT, Nat.reduceEqDiff, LT.lo, Leaf.lo]
            rw [decide_eq_true (by omega)]
          · rw [decide_eq_false h5]
            simp -implicitDefEqProofs only [evs, reduceIte, rdRes, rdTT, rdTy, rdLT, Res.un, TT.un, Ty.un, LT.un, Leaf.un, Leaf.plain, LT.plain, evh, List.replicate, splice, LT.pack, Leaf.pack, Nat.reduceAdd, Nat.reduceSub, Nat.reduceLeDiff, Nat.reduceLT, Nat.reduceEqDiff, LT.lo, Leaf.lo]
            by_cases h6 : a = 0
            · rw [decide_eq_true h6, decide_eq_true (by omega)]
            · rw [decide_eq_false h6, decide_eq_false (by omega)]
        · rw [decide_eq_false h4, decide_eq_false (p := _ ∧ _) (by omega)]
          simp -implicitDefEqProofs only [evs, reduceIte, rdRes, rdTT, rdTy, rdLT, Res.un, TT.un, Ty.un, LT.un, Leaf.un, Leaf.plain, LT.plain, evh, List.replicate, splice, LT.pack, Leaf.pack, Nat.reduceAdd, Nat.reduceSub, Nat.reduceLeDiff, Nat.reduceLT, Nat.reduceEqDiff, LT.lo, Leaf.lo]
      · rw [decide_eq_false h3, decide_eq_false (p := _ ∧ _) (by omega)]
        simp -implicitDefEqProofs only [evs, reduceIte, rdRes, rdTT, rdTy, rdLT, Res.un, TT.un, Ty.un, LT.un, Leaf.un, Leaf.plain, LT.plain, evh, List.replicate, splice, LT.pack, Leaf.pack, Nat.reduceAdd, Nat.reduceSub, Nat.reduceLeDiff, Nat.reduceLT, Nat.reduceEqDiff, LT.lo, Leaf.lo]
    · rw [decide_eq_false h2, decide_eq_false (p := _ ∧ _) (by omega)]
      simp -implicitDefEqProofs only [evs, reduceIte, rdRes, rdTT, rdTy, rdLT, Res.un, TT.un, Ty.un, LT.un, Leaf.un, Leaf.plain, LT.plain, evh, List.replicate, splice, LT.pack, Leaf.pack, Nat.reduceAdd, Nat.reduceSub, Nat.reduceLeDiff, Nat.reduceLT, Nat.reduceEqDiff, LT.lo, Leaf.lo]
  · rw [decide_eq_false h1, decide_eq_false (p := _ ∧ _) (by omega)]
    simp -implicitDefEqProofs only [evs, reduceIte, rdRes, rdTT, rdTy, rdLT, Res.un, TT.un, Ty.un, LT.un, Leaf.un, Leaf.plain, LT.plain, evh, List.replicate, splice, LT.pack, Leaf.pack, Nat.reduceAdd, Nat.reduceSub, Nat.reduceLeDiff, Nat.reduceLT, Nat.reduceEqDiff, LT.lo, Leaf.lo]
end Go.Proofs.Ytbcpdecgfdlaaaa
/- What share.Check, share.Sum and those of the reference compute. Conditions: those of each law. -/
namespace Go.Proofs.Ytbcpdecgfdlaaaa
open Go Go.Proofs.Ytbcpdecgfdlaaaa.Ev
set_option linter.unusedVariables false
set_option linter.unusedSimpArgs false
set_option maxRecDepth 100000
set_option maxHeartbeats 4000000
/-- An element of a list of pairs. -/
def at2 (xs : List (Int × Int)) (i : Nat) : Int × Int := xs[i]?.getD (0, 0)
theorem at2_some {xs : List (Int × Int)} {i : Nat} (h : i < xs.length) : xs[i]? = some (at2 xs i) := by
  unfold at2
  rw [List.getElem?_eq_getElem h]
  rfl
theorem at2_mem {xs : List (Int × Int)} {i : Nat} (h : i < xs.length) : at2 xs i ∈ xs := List.mem_of_getElem? (at2_some h)
theorem rd_at2 {f : Bool} {xs : List (Int × Int)} {i : Nat} {h : H} (hi : i < xs.length) : rdT (.leaf (.int .i64)) h (((rowSV f j2 xs).a.add (i * 2)).add 0) = some (at2 xs i).1 ∧ rdT (.leaf (.int .i64)) h (((rowSV f j2 xs).a.add (i * 2)).add 1) = some (at2 xs i).2 := by
  refine ⟨?_, ?_⟩ <;> (rw [add_add, rd_row (ls := j2) (w := 2) rfl (by omega), at2_some hi]; rfl)
theorem nn_at2 {f : Bool} {xs : List (Int × Int)} {i : Nat} (hi : i < xs.length) : V.nn ((rowSV f j2 xs).a.add (i * 2)) = true := nn_row (by omega) (by simp)
/-- The first one of some faults. -/
def firstF (f : Nat → Int) (n : Nat) : Int := (((List.range n).find? fun i => !decide (f i = 0)).map f).getD 0
theorem first_cases (f : Nat → Int) : ∀ (n : Nat), ((∀ i, i < n → f i = 0) ∧ firstF f n = 0) ∨ ∃ m, m < n ∧ f m ≠ 0 ∧ (∀ i, i < m → f i = 0) ∧ firstF f n = f m := fun n => by
  unfold firstF
  cases h : (List.range n).find? fun i => !decide (f i = 0) with
  | none =>
    refine .inl ⟨fun i hi => ?_, rfl⟩
    have := List.find?_eq_none.1 h i (List.mem_range.2 hi)
    simpa using this
  | some m =>
    obtain ⟨h1, us, bs, h2, h3⟩ := List.find?_eq_some_iff_append.1 h
    refine .inr ⟨m, List.mem_range.1 (by rw [h2]; simp), by simpa using h1, fun i hi => ?_, rfl⟩
    have hm : us.length = m := by
      have h4 : (List.range n)[us.length]? = some m := by rw [h2]; simp
      rw [List.getElem?_eq_some_iff] at h4
      obtain ⟨_, h5⟩ := h4
      simpa using h5
    have : i ∈ us := by
      have h4 : (List.range n)[i]? = us[i]? := by rw [h2, List.getElem?_append_left (by omega)]
      have hn : m < n := List.mem_range.1 (by rw [h2]; simp)
      rw [List.getElem?_range (by omega)] at h4
      exact List.mem_of_getElem? h4.symm
    have := h3 i this
    simpa using this
def okS (x : Int × Int) : Bool := decide (1 ≤ x.1 ∧ x.1 ≤ 1073741824 ∧ 1 ≤ x.2 ∧ x.2 ≤ 10737418240000)
theorem okS_iff {x : Int × Int} : okS x = true ↔ 1 ≤ x.1 ∧ x.1 ≤ 1073741824 ∧ 1 ≤ x.2 ∧ x.2 ≤ 10737418240000 := by simp [okS]
/-- The sum of the alcohol. -/
def sumA (xs : List (Int × Int)) : Int := (xs.map (·.2)).sum
theorem sumA_take {xs : List (Int × Int)} {i : Nat} (h : i < xs.length) : sumA (xs.take (i + 1)) = sumA (xs.take i) + (at2 xs i).2 := by
  have := at2_some h
  obtain ⟨hi, he⟩ := List.getElem?_eq_some_iff.1 this
  unfold sumA
  rw [← List.take_append_getElem hi, he]
  simp
theorem sumA_bound : ∀ (xs : List (Int × Int)), (∀ x ∈ xs, 0 ≤ x.2 ∧ x.2 ≤ 1000000000000000) → 0 ≤ sumA xs ∧ sumA xs ≤ xs.length * 1000000000000000
  | [], _ => by simp [sumA]
  | x :: xs, h => by
    have h1 := h x (by simp)
    have h2 := sumA_bound xs fun y hy => h y (by simp [hy])
    unfold sumA at h2 ⊢
    simp only [List.map_cons, List.sum_cons, List.length_cons]
    omega
def sfault (xs : List (Int × Int)) (i : Nat) : Int := if okS (at2 xs i) = true then (if 0 < i ∧ (at2 xs i).1 ≤ (at2 xs (i - 1)).1 then 5 else 0) else 2
def shareCheck (xs : List (Int × Int)) : Int :=
  if 32 < xs.length then 8 else if firstF (sfault xs) xs.length = 0 then (if 10737418240000 < sumA xs then 15 else 0) else firstF (sfault xs) xs.length
theorem sfault_ok {xs : List (Int × Int)} {i : Nat} (h : sfault xs i = 0) : okS (at2 xs i) = true := by
  unfold sfault at h
  by_cases h1 : okS (at2 xs i) = true
  · exact h1
  · rw [if_neg h1] at h; simp at h
theorem take_ok {xs : List (Int × Int)} {i : Nat} (hi : i ≤ xs.length) (h : ∀ j, j < i → sfault xs j = 0) : ∀ x ∈ xs.take i, 0 ≤ x.2 ∧ x.2 ≤ 1000000000000000 := fun x hx => by
  obtain ⟨j, hj, e⟩ := List.getElem_of_mem hx
  rw [List.length_take] at hj
  rw [List.getElem_take] at e
  have h1 := okS_iff.1 (sfault_ok (h j (by omega)))
  have : at2 xs j = x := by
    have := at2_some (xs := xs) (i := j) (by omega)
    rw [List.getElem?_eq_getElem (by omega), e] at this
    exact (Option.some.inj this).symm
  rw [this] at h1
  omega
end Go.Proofs.Ytbcpdecgfdlaaaa
/- What share.amounts, share.Sum and those of the reference compute. Conditions: those of each law. -/
namespace Go.Proofs.Ytbcpdecgfdlaaaa
open Go Go.Proofs.Ytbcpdecgfdlaaaa.Ev
set_option linter.unusedVariables false
set_option linter.unusedSimpArgs false
set_option maxRecDepth 100000
set_option maxHeartbeats 4000000
theorem shareCheck_ok {xs : List (Int × Int)} (h : shareCheck xs = 0) : xs.length ≤ 32 ∧ (∀ i, i < xs.length → sfault xs i = 0) ∧ (∀ x ∈ xs, okS x = true) ∧ sumA xs ≤ 10737418240000 := by
  unfold shareCheck at h
  by_cases h32 : 32 < xs.length
  · rw [if_pos h32] at h; simp at h
  · rw [if_neg h32] at h
    rcases first_cases (sfault xs) xs.length with ⟨h1, h2⟩ | ⟨m, h1, h2, h3, h4⟩
    · rw [h2, if_pos rfl] at h
      by_cases hs : 10737418240000 < sumA xs
      · rw [if_pos hs] at h; simp at h
      · refine ⟨by omega, h1, fun x hx => ?_, by omega⟩
        obtain ⟨i, hi, e⟩ := List.getElem_of_mem hx
        have := sfault_ok (h1 i hi)
        have h5 := at2_some hi
        rw [List.getElem?_eq_getElem hi, e] at h5
        rw [Option.some.inj h5]
        exact this
    · rw [h4, if_neg h2] at h
      exact absurd h h2
theorem okS_bound {xs : List (Int × Int)} (h : ∀ x ∈ xs, okS x = true) : ∀ x ∈ xs, 0 ≤ x.2 ∧ x.2 ≤ 1000000000000000 := fun x hx => by
  have := okS_iff.1 (h x hx)
  omega
end Go.Proofs.Ytbcpdecgfdlaaaa
/- Joining lists of shares, in plain numbers; spileref23.join computes it. Conditions: those of each law. -/
namespace Go.Proofs.Ytbcpdecgfdlaaaa
open Go Go.Proofs.Ytbcpdecgfdlaaaa.Ev
set_option linter.unusedVariables false
set_option linter.unusedSimpArgs false
set_option maxRecDepth 100000
set_option maxHeartbeats 4000000
def joinL : List (Int × Int) → List (Int × Int) → List (Int × Int)
  | [], ys => ys
  | x :: xs, [] => x :: xs
  | x :: xs, y :: ys => if x.1 < y.1 then x :: joinL xs (y :: ys) else if y.1 < x.1 then y :: joinL (x :: xs) ys else (x.1, x.2 + y.2) :: joinL xs ys
termination_by xs ys => xs.length + ys.length
theorem joinL_nil (xs : List (Int × Int)) : joinL xs [] = xs := by cases xs <;> simp [joinL]
theorem nil_joinL (xs : List (Int × Int)) : joinL [] xs = xs := by simp [joinL]
theorem joinL_lt {x y : Int × Int} {xs ys : List (Int × Int)} (h : x.1 < y.1) : joinL (x :: xs) (y :: ys) = x :: joinL xs (y :: ys) := by rw [joinL, if_pos h]
theorem joinL_gt {x y : Int × Int} {xs ys : List (Int × Int)} (h : y.1 < x.1) : joinL (x :: xs) (y :: ys) = y :: joinL (x :: xs) ys := by rw [joinL, if_neg (by omega), if_pos h]
theorem joinL_eq {x y : Int × Int} {xs ys : List (Int × Int)} (h : x.1 = y.1) : joinL (x :: xs) (y :: ys) = (x.1, x.2 + y.2) :: joinL xs ys := by rw [joinL, if_neg (by omega), if_neg (by omega)]
/-- What holds of joined lists, case by case. -/
theorem joinL_cases {P : List (Int × Int) → List (Int × Int) → Prop} (h1 : ∀ ys, P [] ys) (h2 : ∀ xs, P xs []) (h3 : ∀ x xs y ys, x.1 < y.1 → P xs (y :: ys) → P (x :: xs) (y :: ys)) (h4 : ∀ x xs y ys, y.1 < x.1 → P (x :: xs) ys → P (x :: xs) (y :: ys))
    (h5 : ∀ x xs y ys, x.1 = y.1 → P xs ys → P (x :: xs) (y :: ys)) : ∀ (n : Nat) (xs ys : List (Int × Int)), xs.length + ys.length ≤ n → P xs ys
  | n, [], ys, _ => h1 ys
  | n, x :: xs, [], _ => h2 _
  | 0, x :: xs, y :: ys, h => by simp at h
  | n + 1, x :: xs, y :: ys, h => by
    simp only [List.length_cons] at h
    rcases Int.lt_trichotomy x.1 y.1 with h6 | h6 | h6
    · exact h3 x xs y ys h6 (joinL_cases h1 h2 h3 h4 h5 n xs (y :: ys) (by simp only [List.length_cons]; omega))
    · exact h5 x xs y ys h6 (joinL_cases h1 h2 h3 h4 h5 n xs ys (by omega))
    · exact h4 x xs y ys h6 (joinL_cases h1 h2 h3 h4 h5 n (x :: xs) ys (by simp only [List.length_cons]; omega))
theorem joinL_length (xs ys : List (Int × Int)) : (joinL xs ys).length ≤ xs.length + ys.length := by
  refine joinL_cases (P := fun xs ys => (joinL xs ys).length ≤ xs.length + ys.length) (fun ys => by rw [nil_joinL]; simp) (fun xs => by rw [joinL_nil]; simp) (fun x xs y ys h ih => ?_) (fun x xs y ys h ih => ?_) (fun x xs y ys h ih => ?_) _ xs ys (Nat.le_refl _)
  · rw [joinL_lt h]; simp only [List.length_cons] at ih ⊢; omega
  · rw [joinL_gt h]; simp only [List.length_cons] at ih ⊢; omega
  · rw [joinL_eq h]; simp only [List.length_cons] at ih ⊢; omega
theorem joinL_sum (xs ys : List (Int × Int)) : sumA (joinL xs ys) = sumA xs + sumA ys := by
  refine joinL_cases (P := fun xs ys => sumA (joinL xs ys) = sumA xs + sumA ys) (fun ys => by rw [nil_joinL]; simp [sumA]) (fun xs => by rw [joinL_nil]; simp [sumA]) (fun x xs y ys h ih => ?_) (fun x xs y ys h ih => ?_) (fun x xs y ys h ih => ?_) _ xs ys (Nat.le_refl _)
  · rw [joinL_lt h]; simp only [sumA, List.map_cons, List.sum_cons] at ih ⊢; omega
  · rw [joinL_gt h]; simp only [sumA, List.map_cons, List.sum_cons] at ih ⊢; omega
  · rw [joinL_eq h]; simp only [sumA, List.map_cons, List.sum_cons] at ih ⊢; omega
/-- The fills of both. -/
theorem joinL_fill (xs ys : List (Int × Int)) : ∀ p ∈ joinL xs ys, (∃ q ∈ xs, q.1 = p.1) ∨ ∃ q ∈ ys, q.1 = p.1 := by
  refine joinL_cases (P := fun xs ys => ∀ p ∈ joinL xs ys, (∃ q ∈ xs, q.1 = p.1) ∨ ∃ q ∈ ys, q.1 = p.1) (fun ys p hp => by rw [nil_joinL] at hp; exact .inr ⟨p, hp, rfl⟩) (fun xs p hp => by rw [joinL_nil] at hp; exact .inl ⟨p, hp, rfl⟩) (fun x xs y ys h ih p hp => ?_) (fun x xs y ys h ih p hp => ?_) (fun x xs y ys h ih p hp => ?_) _ xs ys (Nat.le_refl _)
  · rw [joinL_lt h] at hp
    rcases List.mem_cons.1 hp with rfl | hp
    · exact .inl ⟨p, by simp, rfl⟩
    · rcases ih p hp with ⟨q, h1, h2⟩ | h1
      · exact .inl ⟨q, by simp [h1], h2⟩
      · exact .inr h1
  · rw [joinL_gt h] at hp
    rcases List.mem_cons.1 hp with rfl | hp
    · exact .inr ⟨p, by simp, rfl⟩
    · rcases ih p hp with h1 | ⟨q, h1, h2⟩
      · exact .inl h1
      · exact .inr ⟨q, by simp [h1], h2⟩
  · rw [joinL_eq h] at hp
    rcases List.mem_cons.1 hp with rfl | hp
    · exact .inl ⟨x, by simp, rfl⟩
    · rcases ih p hp with ⟨q, h1, h2⟩ | ⟨q, h1, h2⟩
      · exact .inl ⟨q, by simp [h1], h2⟩
      · exact .inr ⟨q, by simp [h1], h2⟩
abbrev SortedF (xs : List (Int × Int)) : Prop := List.Pairwise (fun x y => x.1 < y.1) xs
theorem joinL_sorted (xs ys : List (Int × Int)) : SortedF xs → SortedF ys → SortedF (joinL xs ys) := by
  refine joinL_cases (P := fun xs ys => SortedF xs → SortedF ys → SortedF (joinL xs ys)) (fun ys _ h => by rw [nil_joinL]; exact h) (fun xs h _ => by rw [joinL_nil]; exact h) (fun x xs y ys h ih h1 h2 => ?_) (fun x xs y ys h ih h1 h2 => ?_) (fun x xs y ys h ih h1 h2 => ?_) _ xs ys (Nat.le_refl _)
  · have h3 := List.pairwise_cons.1 h1
    have h4 := List.pairwise_cons.1 h2
    rw [joinL_lt h]
    refine List.pairwise_cons.2 ⟨fun p hp => ?_, ih h3.2 h2⟩
    rcases joinL_fill _ _ p hp with ⟨q, k1, k2⟩ | ⟨q, k1, k2⟩
    · have := h3.1 q k1; omega
    · rcases List.mem_cons.1 k1 with rfl | k1
      · omega
      · have := h4.1 q k1; omega
  · have h3 := List.pairwise_cons.1 h1
    have h4 := List.pairwise_cons.1 h2
    rw [joinL_gt h]
    refine List.pairwise_cons.2 ⟨fun p hp => ?_, ih h1 h4.2⟩
    rcases joinL_fill _ _ p hp with ⟨q, k1, k2⟩ | ⟨q, k1, k2⟩
    · rcases List.mem_cons.1 k1 with rfl | k1
      · omega
      · have := h3.1 q k1; omega
    · have := h4.1 q k1; omega
  · have h3 := List.pairwise_cons.1 h1
    have h4 := List.pairwise_cons.1 h2
    rw [joinL_eq h]
    refine List.pairwise_cons.2 ⟨fun p hp => ?_, ih h3.2 h4.2⟩
    simp only
    rcases joinL_fill _ _ p hp with ⟨q, k1, k2⟩ | ⟨q, k1, k2⟩
    · have := h3.1 q k1; omega
    · have := h4.1 q k1; omega
/-- What a list has of a fill. -/
def amtOf (f : Int) (xs : List (Int × Int)) : Int := ((xs.filter fun x => decide (x.1 = f)).map (·.2)).sum
theorem amtOf_nil {f : Int} : amtOf f [] = 0 := rfl
theorem amtOf_cons {f : Int} {x : Int × Int} {xs : List (Int × Int)} : amtOf f (x :: xs) = (if x.1 = f then x.2 else 0) + amtOf f xs := by
  unfold amtOf
  by_cases h : x.1 = f
  · rw [List.filter_cons_of_pos (by simpa using h), if_pos h]; simp
  · rw [List.filter_cons_of_neg (by simpa using h), if_neg h]; simp
theorem amtOf_append {f : Int} : ∀ {xs ys : List (Int × Int)}, amtOf f (xs ++ ys) = amtOf f xs + amtOf f ys
  | [], ys => by simp [amtOf_nil]
  | x :: xs, ys => by rw [List.cons_append, amtOf_cons, amtOf_cons, amtOf_append]; omega
theorem amtOf_none {f : Int} : ∀ {xs : List (Int × Int)}, (∀ x ∈ xs, x.1 ≠ f) → amtOf f xs = 0
  | [], _ => rfl
  | x :: xs, h => by rw [amtOf_cons, if_neg (h x (by simp)), amtOf_none fun y hy => h y (by simp [hy])]; rfl
theorem amtOf_mem : ∀ {xs : List (Int × Int)} {x : Int × Int}, SortedF xs → x ∈ xs → amtOf x.1 xs = x.2
  | [], _, _, h => by cases h
  | y :: ys, x, hs, h => by
    have h3 := List.pairwise_cons.1 hs
    rw [amtOf_cons]
    rcases List.mem_cons.1 h with rfl | h
    · rw [if_pos rfl, amtOf_none fun z hz => by have := h3.1 z hz; omega]; omega
    · have := h3.1 x h
      rw [if_neg (by omega), amtOf_mem h3.2 h]; omega
theorem amtOf_join (f : Int) (xs ys : List (Int × Int)) : amtOf f (joinL xs ys) = amtOf f xs + amtOf f ys := by
  refine joinL_cases (P := fun xs ys => amtOf f (joinL xs ys) = amtOf f xs + amtOf f ys) (fun ys => by rw [nil_joinL]; simp [amtOf_nil]) (fun xs => by rw [joinL_nil]; simp [amtOf_nil]) (fun x xs y ys h ih => ?_) (fun x xs y ys h ih => ?_) (fun x xs y ys h ih => ?_) _ xs ys (Nat.le_refl _)
  · rw [joinL_lt h, amtOf_cons, ih, amtOf_cons (x := x)]; omega
  · rw [joinL_gt h, amtOf_cons, ih, amtOf_cons (x := y)]; omega
  · rw [joinL_eq h, amtOf_cons, ih, amtOf_cons (x := x), amtOf_cons (x := y)]
    simp only
    by_cases hf : x.1 = f
    · rw [if_pos hf, if_pos hf, if_pos (by omega)]; omega
    · rw [if_neg hf, if_neg hf, if_neg (by omega)]; omega
/-- The joined list, by its fills alone. -/
theorem joinL_map (xs ys : List (Int × Int)) (hx : SortedF xs) (hy : SortedF ys) : ((joinL xs ys).map (·.1)).map (fun f => (f, amtOf f xs + amtOf f ys)) = joinL xs ys := by
  rw [List.map_map]
  have : ∀ p ∈ joinL xs ys, ((fun f => (f, amtOf f xs + amtOf f ys)) ∘ fun x : Int × Int => x.1) p = p := fun p hp => by
    simp only [Function.comp]
    rw [← amtOf_join, amtOf_mem (joinL_sorted xs ys hx hy) hp]
  rw [List.map_congr_left this, List.map_id']
theorem drop_at2 {xs : List (Int × Int)} {i : Nat} (h : i < xs.length) : xs.drop i = at2 xs i :: xs.drop (i + 1) := by
  have := at2_some h
  rw [List.getElem?_eq_getElem h] at this
  rw [List.drop_eq_getElem_cons h, Option.some.inj this]
end Go.Proofs.Ytbcpdecgfdlaaaa
/- slices.Grow and slices.Concat of shares; sums by fill in a map. Conditions: those of each law. -/
namespace Go.Proofs.Ytbcpdecgfdlaaaa
open Go Go.Proofs.Ytbcpdecgfdlaaaa.Ev
set_option linter.unusedVariables false
set_option linter.unusedSimpArgs false
set_option maxRecDepth 100000
set_option maxHeartbeats 4000000
def pick3 {α : Type} (a b c : α) : Nat → α
  | 0 => a
  | 1 => b
  | _ => c
theorem pick3_0 {α : Type} {a b c : α} : pick3 a b c 0 = a := rfl
theorem pick3_1 {α : Type} {a b c : α} : pick3 a b c 1 = b := rfl
theorem pick3_2 {α : Type} {a b c : α} : pick3 a b c 2 = c := rfl
/-- An append to a slice of the call's own that has room. -/
theorem append_room {sl : List Slot} {id n a c w b : Nat} {old cs : List V} (hs : sl[id]? = some (.own old w)) (ho : old.length = n * w) (hc : cs.length = c * w) (hf : a + c ≤ n) (hn : n ≤ 2 ^ 36) (hb : b ≤ 2 ^ 11) :
    appendS (hL sl) none w b ⟨.hp id (n * w) 0, a, n, true⟩ cs c = some (⟨.hp id (n * w) 0, a + c, n, true⟩, hL (sl.set id (.own (splice old (a * w) cs) w))) := by
  have hid := (List.getElem?_eq_some_iff.1 hs).1
  simp only [appendS, appendV]
  by_cases h0 : c = 0
  · subst h0
    have : cs = [] := List.eq_nil_of_length_eq_zero (by simpa using hc)
    subst this
    rw [if_pos rfl]
    have : splice old (a * w) [] = old := by simp [splice]
    rw [this]
    have : sl.set id (.own old w) = sl := by
      obtain ⟨h1, h2⟩ := List.getElem?_eq_some_iff.1 hs
      rw [← h2]; exact List.set_getElem_self h1
    rw [this]
    rfl
  · rw [if_neg h0, guardO_pos ⟨by unfold roomCells; omega, hb⟩, hL_m, hs]
    simp only [Option.getD_some]
    rw [if_neg (by omega), if_pos hf, Nat.zero_add, wrs_own hs ho (by rw [hc, ← Nat.add_mul]; exact Nat.mul_le_mul_right _ hf)]
    rfl
theorem Grow_ok {sl : List Slot} {n : Nat} (hn : n ≤ 2 ^ 30) : slices_Grow_api_Share_api_Share ⟨.nil, 0, 0, false⟩ (n : Int) (hL sl) = if n = 0 then some (⟨.nil, 0, 0, false⟩, hL sl) else some (⟨.hp sl.length (n * 2) 0, 0, n, true⟩, hL (sl ++ [.own (repeatCells [.int .i64 0, .int .i64 0] n) 2])) := by
  unfold slices_Grow_api_Share_api_Share
  rw [decide_eq_false (show ¬ (n : Int) < 0 by omega)]
  simp -implicitDefEqProofs only [evs, reduceIte, rdRes, rdTT, rdTy, rdLT, Res.un, TT.un, Ty.un, LT.un, Leaf.un, Leaf.plain, LT.plain, Int.toNat_zero, Nat.sub_self]
  rw [show IntKind.wrap .i64 (((0 : Nat) : Int) - ((0 : Nat) : Int)) = 0 from rfl, show (n : Int) - 0 = (n : Int) by omega, i64_nat (by omega)]
  by_cases h0 : n = 0
  · subst h0
    rw [if_pos rfl, decide_eq_false (show ¬ (0 : Int) < ((0 : Nat) : Int) by omega)]
    simp -implicitDefEqProofs only [evs, reduceIte, rdRes, rdTT, rdTy, rdLT, Res.un, TT.un, Ty.un, LT.un, Leaf.un, Leaf.plain, LT.plain]
  · rw [if_neg h0, decide_eq_true (show (0 : Int) < (n : Int) by omega)]
    simp -implicitDefEqProofs only [evs, reduceIte, rdRes, rdTT, rdTy, rdLT, Res.un, TT.un, Ty.un, LT.un, Leaf.un, Leaf.plain, LT.plain]
    rw [guardO_pos (by omega), guardO_pos ⟨by omega, by unfold roomCells; omega, by omega⟩, Int.toNat_natCast]
    simp -implicitDefEqProofs only [evs, reduceIte, rdRes, rdTT, rdTy, rdLT, Res.un, TT.un, Ty.un, LT.un, Leaf.un, Leaf.plain, LT.plain]
    simp only [appendS, appendV, V.add, newAt]
    rw [if_neg h0, guardO_pos ⟨by unfold roomCells; omega, by omega⟩, if_pos ⟨trivial, trivial, rfl⟩, hL_new, hL_next]
    simp -implicitDefEqProofs only [evs, reduceIte, rdRes, rdTT, rdTy, rdLT, Res.un, TT.un, Ty.un, LT.un, Leaf.un, Leaf.plain, LT.plain]
    rw [guardO_pos (by omega)]
    simp -implicitDefEqProofs only [evs, reduceIte, rdRes, rdTT, rdTy, rdLT, Res.un, TT.un, Ty.un, LT.un, Leaf.un, Leaf.plain, LT.plain]
    rfl
theorem cells_of {f : Bool} {h : H} {xs : List (Int × Int)} : cellsOf h (.slice (rowSV f j2 xs).a xs.length xs.length true) 2 = some (xs.length, cellsL j2 xs) := by
  have e : (rowSV f j2 xs).a = .lp f (cellsL j2 xs) 0 := rfl
  have hlen : (cellsL j2 xs).length = xs.length * 2 := flat_length (ls := j2) xs
  unfold cellsOf
  by_cases h0 : xs.length = 0
  · have : xs = [] := List.eq_nil_of_length_eq_zero h0
    subst this
    rfl
  · simp only
    rw [if_neg h0, e]
    simp only [H.rds, H.from, Option.bind_some, List.drop_zero]
    rw [if_pos ⟨by omega, by omega⟩, List.take_of_length_le (by omega)]
    rfl
theorem Concat_ok {sl : List Slot} (xs ys : List (Int × Int)) (hl : xs.length + ys.length ≤ 2 ^ 30) :
    ∃ s ext o, slices_Concat_api_Share_api_Share ⟨.lp true [.slice (rowSV false j2 xs).a xs.length xs.length true, .slice (rowSV false j2 ys).a ys.length ys.length true] 0, 2, 2, false⟩ (hL sl) = some (s, hL (sl ++ ext)) ∧ Acc (sl ++ ext) j2 (xs ++ ys) s o ∧ ∀ id, o = some id → sl.length ≤ id := by
  have hA : (V.add (V.lp true [.slice (rowSV false j2 xs).a xs.length xs.length true, .slice (rowSV false j2 ys).a ys.length ys.length true] 0) (0 * 1)) = V.lp true [.slice (rowSV false j2 xs).a xs.length xs.length true, .slice (rowSV false j2 ys).a ys.length ys.length true] 0 := rfl
  have r0 : ∀ h : H, rdT (.leaf .slice) h (V.add (V.lp true [.slice (rowSV false j2 xs).a xs.length xs.length true, .slice (rowSV false j2 ys).a ys.length ys.length true] 0) (0 * 1)) = some ⟨(rowSV false j2 xs).a, xs.length, xs.length, true⟩ := fun h => rfl
  have r1 : ∀ h : H, rdT (.leaf .slice) h (V.add (V.lp true [.slice (rowSV false j2 xs).a xs.length xs.length true, .slice (rowSV false j2 ys).a ys.length ys.length true] 0) (1 * 1)) = some ⟨(rowSV false j2 ys).a, ys.length, ys.length, true⟩ := fun h => rfl
  have w1 : IntKind.wrap .i64 ((0 : Int) + (xs.length : Int)) = (xs.length : Int) := by rw [i64_in _ (by omega)]; omega
  have w2 : IntKind.wrap .i64 ((xs.length : Int) + (ys.length : Int)) = ((xs.length + ys.length : Nat) : Int) := by rw [i64_in _ (by omega)]; omega
  have w3 : IntKind.wrap .i64 ((0 : Int) + 1) = 1 := rfl
  have w4 : IntKind.wrap .i64 ((1 : Int) + 1) = 2 := rfl
  have c0 : Int.toNat 0 = 0 := rfl
  have c1 : Int.toNat 1 = 1 := rfl
  unfold slices_Concat_api_Share_api_Share
  have L1 : iter FUEL (slices_Concat_api_Share_api_Share.loop1 ⟨.lp true [.slice (rowSV false j2 xs).a xs.length xs.length true, .slice (rowSV false j2 ys).a ys.length ys.length true] 0, 2, 2, false⟩) ((0, 0), hL sl) = some (.ex0 (((xs.length + ys.length : Nat) : Int)), hL sl) := by
    refine iter_from (s0 := ((0, 0), hL sl)) (fun i => ((pick3 (0 : Int) (xs.length : Int) ((xs.length + ys.length : Nat) : Int) i, (i : Int)), hL sl)) rfl 2 FUEL (fun i hi => ?_) ?_ (fuel_gt (by omega))
    · obtain rfl | rfl : i = 0 ∨ i = 1 := by omega
      · unfold slices_Concat_api_Share_api_Share.loop1
        simp -implicitDefEqProofs only [evs, reduceIte, rdRes, rdTT, rdTy, rdLT, Res.un, TT.un, Ty.un, LT.un, Leaf.un, Leaf.plain, LT.plain]
        rw [decide_eq_true (show (((0 : Nat) : Int) < ((2 : Nat) : Int)) by omega), cond_true, guardO_pos (by omega)]
        rw [show Int.toNat (((0 : Nat) : Int)) = 0 from rfl, r0]
        simp -implicitDefEqProofs only [evs, reduceIte, rdRes, rdTT, rdTy, rdLT, Res.un, TT.un, Ty.un, LT.un, Leaf.un, Leaf.plain, LT.plain]
        rw [pick3_0, w1, decide_eq_false (show ¬ (xs.length : Int) < 0 by omega)]
        simp -implicitDefEqProofs only [evs, reduceIte, rdRes, rdTT, rdTy, rdLT, Res.un, TT.un, Ty.un, LT.un, Leaf.un, Leaf.plain, LT.plain]
        rfl
      · unfold slices_Concat_api_Share_api_Share.loop1
        simp -implicitDefEqProofs only [evs, reduceIte, rdRes, rdTT, rdTy, rdLT, Res.un, TT.un, Ty.un, LT.un, Leaf.un, Leaf.plain, LT.plain]
        rw [decide_eq_true (show (((1 : Nat) : Int) < ((2 : Nat) : Int)) by omega), cond_true, guardO_pos (by omega)]
        rw [show Int.toNat (((1 : Nat) : Int)) = 1 from rfl, r1]
        simp -implicitDefEqProofs only [evs, reduceIte, rdRes, rdTT, rdTy, rdLT, Res.un, TT.un, Ty.un, LT.un, Leaf.un, Leaf.plain, LT.plain]
        rw [pick3_1, w2, decide_eq_false (show ¬ ((xs.length + ys.length : Nat) : Int) < 0 by omega)]
        simp -implicitDefEqProofs only [evs, reduceIte, rdRes, rdTT, rdTy, rdLT, Res.un, TT.un, Ty.un, LT.un, Leaf.un, Leaf.plain, LT.plain]
        rfl
    · unfold slices_Concat_api_Share_api_Share.loop1
      simp -implicitDefEqProofs only [evs, reduceIte, rdRes, rdTT, rdTy, rdLT, Res.un, TT.un, Ty.un, LT.un, Leaf.un, Leaf.plain, LT.plain]
      rw [decide_eq_false (show ¬ (((2 : Nat) : Int) < ((2 : Nat) : Int)) by omega), cond_false]
      rfl
  rw [L1]
  simp -implicitDefEqProofs only [evs, reduceIte, rdRes, rdTT, rdTy, rdLT, Res.un, TT.un, Ty.un, LT.un, Leaf.un, Leaf.plain, LT.plain]
  rw [Grow_ok hl]
  have hx : ∀ h, cellsOf h (.slice (rowSV false j2 xs).a xs.length xs.length true) 2 = some (xs.length, cellsL j2 xs) := fun h => cells_of
  have hy : ∀ h, cellsOf h (.slice (rowSV false j2 ys).a ys.length ys.length true) 2 = some (ys.length, cellsL j2 ys) := fun h => cells_of
  have lx : (cellsL j2 xs).length = xs.length * 2 := flat_length (ls := j2) xs
  have ly : (cellsL j2 ys).length = ys.length * 2 := flat_length (ls := j2) ys
  have key : ∀ (t0 t1 t2 : SV × List Slot), appendS (hL t0.2) none 2 16 t0.1 (cellsL j2 xs) xs.length = some (t1.1, hL t1.2) → appendS (hL t1.2) none 2 16 t1.1 (cellsL j2 ys) ys.length = some (t2.1, hL t2.2) →
      iter FUEL (slices_Concat_api_Share_api_Share.loop2 ⟨.lp true [.slice (rowSV false j2 xs).a xs.length xs.length true, .slice (rowSV false j2 ys).a ys.length ys.length true] 0, 2, 2, false⟩) ((t0.1, 0), hL t0.2) = some (.ex0 t2.1, hL t2.2) := fun t0 t1 t2 h1 h2 => by
    refine iter_from (s0 := ((t0.1, 0), hL t0.2)) (fun i => ((pick3 t0.1 t1.1 t2.1 i, (i : Int)), hL (pick3 t0.2 t1.2 t2.2 i))) rfl 2 FUEL (fun i hi => ?_) ?_ (fuel_gt (by omega))
    · obtain rfl | rfl : i = 0 ∨ i = 1 := by omega
      · unfold slices_Concat_api_Share_api_Share.loop2
        simp -implicitDefEqProofs only [evs, reduceIte, rdRes, rdTT, rdTy, rdLT, Res.un, TT.un, Ty.un, LT.un, Leaf.un, Leaf.plain, LT.plain]
        rw [decide_eq_true (show (((0 : Nat) : Int) < ((2 : Nat) : Int)) by omega), cond_true, guardO_pos (by omega)]
        rw [show Int.toNat (((0 : Nat) : Int)) = 0 from rfl, r0]
        simp -implicitDefEqProofs only [evs, reduceIte, rdRes, rdTT, rdTy, rdLT, Res.un, TT.un, Ty.un, LT.un, Leaf.un, Leaf.plain, LT.plain]
        rw [hx]
        simp -implicitDefEqProofs only [evs, reduceIte, rdRes, rdTT, rdTy, rdLT, Res.un, TT.un, Ty.un, LT.un, Leaf.un, Leaf.plain, LT.plain]
        rw [pick3_0, pick3_0, h1]
        simp -implicitDefEqProofs only [evs, reduceIte, rdRes, rdTT, rdTy, rdLT, Res.un, TT.un, Ty.un, LT.un, Leaf.un, Leaf.plain, LT.plain]
        rfl
      · unfold slices_Concat_api_Share_api_Share.loop2
        simp -implicitDefEqProofs only [evs, reduceIte, rdRes, rdTT, rdTy, rdLT, Res.un, TT.un, Ty.un, LT.un, Leaf.un, Leaf.plain, LT.plain]
        rw [decide_eq_true (show (((1 : Nat) : Int) < ((2 : Nat) : Int)) by omega), cond_true, guardO_pos (by omega)]
        rw [show Int.toNat (((1 : Nat) : Int)) = 1 from rfl, r1]
        simp -implicitDefEqProofs only [evs, reduceIte, rdRes, rdTT, rdTy, rdLT, Res.un, TT.un, Ty.un, LT.un, Leaf.un, Leaf.plain, LT.plain]
        rw [hy]
        simp -implicitDefEqProofs only [evs, reduceIte, rdRes, rdTT, rdTy, rdLT, Res.un, TT.un, Ty.un, LT.un, Leaf.un, Leaf.plain, LT.plain]
        rw [pick3_1, pick3_1, h2]
        simp -implicitDefEqProofs only [evs, reduceIte, rdRes, rdTT, rdTy, rdLT, Res.un, TT.un, Ty.un, LT.un, Leaf.un, Leaf.plain, LT.plain]
        rfl
    · unfold slices_Concat_api_Share_api_Share.loop2
      simp -implicitDefEqProofs only [evs, reduceIte, rdRes, rdTT, rdTy, rdLT, Res.un, TT.un, Ty.un, LT.un, Leaf.un, Leaf.plain, LT.plain]
      rw [decide_eq_false (show ¬ (((2 : Nat) : Int) < ((2 : Nat) : Int)) by omega), cond_false]
      rfl
  by_cases h0 : xs.length + ys.length = 0
  · have hx0 : xs = [] := List.eq_nil_of_length_eq_zero (by omega)
    have hy0 : ys = [] := List.eq_nil_of_length_eq_zero (by omega)
    subst hx0 hy0
    rw [if_pos (show ([] : List (Int × Int)).length + ([] : List (Int × Int)).length = 0 from rfl)]
    simp -implicitDefEqProofs only [evs, reduceIte, rdRes, rdTT, rdTy, rdLT, Res.un, TT.un, Ty.un, LT.un, Leaf.un, Leaf.plain, LT.plain]
    rw [key (⟨.nil, 0, 0, false⟩, sl) (⟨.nil, 0, 0, false⟩, sl) (⟨.nil, 0, 0, false⟩, sl) rfl rfl]
    simp -implicitDefEqProofs only [evs, reduceIte, rdRes, rdTT, rdTy, rdLT, Res.un, TT.un, Ty.un, LT.un, Leaf.un, Leaf.plain, LT.plain]
    exact ⟨⟨.nil, 0, 0, false⟩, [], none, by rw [List.append_nil], ⟨rfl, .inl rfl⟩, fun _ h => by cases h⟩
  · rw [if_neg h0]
    simp -implicitDefEqProofs only [evs, reduceIte, rdRes, rdTT, rdTy, rdLT, Res.un, TT.un, Ty.un, LT.un, Leaf.un, Leaf.plain, LT.plain]
    have s0 : (sl ++ [Slot.own (repeatCells [.int .i64 0, .int .i64 0] (xs.length + ys.length)) 2])[sl.length]? = some (.own (repeatCells [.int .i64 0, .int .i64 0] (xs.length + ys.length)) 2) := by simp
    have a1 := append_room (b := 16) (a := 0) s0 (repeatCells_length _ _) lx (by omega) (by omega) (by omega)
    have s1 : ((sl ++ [Slot.own (repeatCells [.int .i64 0, .int .i64 0] (xs.length + ys.length)) 2]).set sl.length (.own (splice (repeatCells [.int .i64 0, .int .i64 0] (xs.length + ys.length)) (0 * 2) (cellsL j2 xs)) 2))[sl.length]? = some (.own (splice (repeatCells [.int .i64 0, .int .i64 0] (xs.length + ys.length)) (0 * 2) (cellsL j2 xs)) 2) := by rw [List.getElem?_set_self (by simp)]
    have hrl : (repeatCells [V.int .i64 0, V.int .i64 0] (xs.length + ys.length)).length = (xs.length + ys.length) * 2 := repeatCells_length _ _
    have a2 := append_room (b := 16) (a := 0 + xs.length) s1 (n := xs.length + ys.length) (by simp only [splice, List.length_append, List.length_take, List.length_drop, hrl, lx]; omega) ly (by omega) (by omega) (by omega)
    rw [key (_, _) (_, _) (_, _) a1 a2]
    simp -implicitDefEqProofs only [evs, reduceIte, rdRes, rdTT, rdTy, rdLT, Res.un, TT.un, Ty.un, LT.un, Leaf.un, Leaf.plain, LT.plain]
    have hfull : splice (splice (repeatCells [V.int .i64 0, V.int .i64 0] (xs.length + ys.length)) (0 * 2) (cellsL j2 xs)) ((0 + xs.length) * 2) (cellsL j2 ys) = cellsL j2 (xs ++ ys) := by
      simp only [splice, Nat.zero_mul, List.take_zero, List.nil_append, Nat.zero_add]
      rw [← lx, List.take_left' rfl, List.drop_eq_nil_of_le (by rw [List.length_append, List.length_drop, hrl, lx, ly]; omega), List.append_nil]
      unfold cellsL
      rw [List.flatMap_append]
    rw [hfull, List.set_set, List.set_append_right _ _ (Nat.le_refl _), Nat.sub_self]
    simp only [List.set_cons_zero]
    refine ⟨_, [Slot.own (cellsL j2 (xs ++ ys)) 2], some sl.length, rfl, ⟨by simp only [List.length_append]; omega, ?_, ?_⟩, fun id h => by cases h; exact Nat.le_refl _⟩
    · simp only [ownSV, List.length_append, Nat.zero_add]
      rfl
    · simp
theorem getM_set_self (k v : Int) : ∀ es : List (Int × Int), getM k (setM k v es) = some v
  | [] => by simp [setM, getM]
  | (a, u) :: es => by
    simp only [setM]
    by_cases h : k = a
    · rw [if_pos h]; simp [getM, h]
    · rw [if_neg h]; simp only [getM]; rw [if_neg h]; exact getM_set_self k v es
theorem getM_set_ne {k j : Int} (v : Int) (hne : k ≠ j) : ∀ es : List (Int × Int), getM k (setM j v es) = getM k es
  | [] => by simp [setM, getM, hne]
  | (a, u) :: es => by
    simp only [setM]
    by_cases h : j = a
    · rw [if_pos h]; simp only [getM]; rw [if_neg (by omega), if_neg (by omega)]
    · rw [if_neg h]; simp only [getM]; rw [getM_set_ne v hne es]
/-- The sums of all fills, in a map. -/
def sumsM (xs : List (Int × Int)) : List (Int × Int) := xs.foldl (fun es x => setM x.1 ((getM x.1 es).getD 0 + x.2) es) []
theorem sumsM_get (k : Int) (xs : List (Int × Int)) : (getM k (sumsM xs)).getD 0 = amtOf k xs := by
  have : ∀ (xs : List (Int × Int)) (es : List (Int × Int)), (getM k (xs.foldl (fun es x => setM x.1 ((getM x.1 es).getD 0 + x.2) es) es)).getD 0 = (getM k es).getD 0 + amtOf k xs := fun xs => by
    induction xs with
    | nil => intro es; simp [amtOf_nil]
    | cons x xs ih =>
      intro es
      rw [List.foldl_cons, ih, amtOf_cons]
      by_cases h : x.1 = k
      · rw [if_pos h, h, getM_set_self]; simp only [Option.getD_some]; omega
      · rw [if_neg h, getM_set_ne _ (fun e => h e.symm)]; omega
  have := this xs []
  simpa [sumsM, getM] using this
theorem amtOf_bound (k : Int) : ∀ (xs : List (Int × Int)), (∀ x ∈ xs, 0 ≤ x.2 ∧ x.2 ≤ 1000000000000000) → 0 ≤ amtOf k xs ∧ amtOf k xs ≤ xs.length * 1000000000000000
  | [], _ => by simp [amtOf_nil]
  | x :: xs, h => by
    have h1 := h x (by simp)
    have h2 := amtOf_bound k xs fun y hy => h y (by simp [hy])
    rw [amtOf_cons]
    simp only [List.length_cons]
    split <;> omega
theorem sumsM_snoc {xs : List (Int × Int)} {i : Nat} (h : i < xs.length) : sumsM (xs.take (i + 1)) = setM (at2 xs i).1 ((getM (at2 xs i).1 (sumsM (xs.take i))).getD 0 + (at2 xs i).2) (sumsM (xs.take i)) := by
  have := at2_some h
  obtain ⟨hi, he⟩ := List.getElem?_eq_some_iff.1 this
  unfold sumsM
  rw [← List.take_append_getElem hi, he, List.foldl_append]
  rfl
end Go.Proofs.Ytbcpdecgfdlaaaa
/- What share.joined puts on the heap; one round of share.union. Conditions: those of each law. -/
namespace Go.Proofs.Ytbcpdecgfdlaaaa
open Go Go.Proofs.Ytbcpdecgfdlaaaa.Ev
set_option linter.unusedVariables false
set_option linter.unusedSimpArgs false
set_option maxRecDepth 100000
set_option maxHeartbeats 4000000
theorem rd_map {sl : List Slot} {id j : Nat} (h : sl[id]? = some (.own [.map (some j)] 1)) : rdT (.leaf .map) (hL sl) (.hp id 1 0) = some (some j) := by
  rw [rd_own (g := 1) h rfl]; rfl
theorem imap_hL {sl : List Slot} {id : Nat} {es : List (Int × Int)} (h : sl[id]? = some (.imap .i64 .i64 es)) : H.imap (hL sl) id .i64 .i64 = some es := by
  simp [H.imap, hL_m, h]
abbrev slS (s : SV) : Slot := .own [.slice s.a s.len s.cap s.tail] 1
theorem rd_sl {sl : List Slot} {id : Nat} {s : SV} (h : sl[id]? = some (slS s)) : rdT (.leaf .slice) (hL sl) (.hp id 1 0) = some s := by
  rw [rd_own (g := 1) h rfl]; rfl
theorem wrs_one {sl : List Slot} {id : Nat} {u v : V} (h : sl[id]? = some (.own [u] 1)) : H.wrs (hL sl) (.hp id 1 0) [v] = some (hL (sl.set id (.own [v] 1))) := by
  rw [wrs_own (g := 1) h rfl (by simp)]; rfl
theorem hL_newS {l : List Slot} {s : Slot} : H.newS (hL l) s = hL (l ++ [s]) := by
  refine H.ext' (by simp [H.newS, hL]) fun i => ?_
  simp only [H.newS, hL]
  by_cases hi : i = l.length
  · subst hi
    simp
  · rw [beq_ne hi, cond_false]
    rcases Nat.lt_or_ge i l.length with h | h
    · rw [List.getElem?_append_left h]
    · rw [List.getElem?_eq_none h, List.getElem?_eq_none (by simp; omega)]
theorem Acc.rds2 {sl : List Slot} {zs : List (Int × Int)} {s : SV} {o : Option Nat} {i : Nat} (h : Acc sl j2 zs s o) (hi : i < zs.length) : rdT (.agg j2) (hL sl) (V.add s.a (i * 2)) = some (at2 zs i) := by
  cases o with
  | none => obtain ⟨rfl, _⟩ := h; simp at hi
  | some id =>
    obtain ⟨h1, rfl, h3⟩ := h
    have := rds_ownL (i := i) (ms := j2) (w := 2) h3 rfl rfl rfl (by omega)
    simp only [ownSV, V.add, Nat.zero_add]
    rw [this]
    have e := at2_some hi
    show (zs[i]?).bind _ = _
    rw [e]; rfl
theorem joined_step {sl : List Slot} {zs : List (Int × Int)} {s : SV} {o : Option Nat} {p q i : Nat} {h3 : H} (hacc : Acc sl j2 zs s o) (hi : i < zs.length) (hz : ∀ x ∈ zs, 0 ≤ x.2 ∧ x.2 ≤ 1000000000000000) (hl : zs.length ≤ 4096) (hq : h3.next = q) (hql : sl[q]? = some (.own [.map (some p)] 1)) (hp : sl[p]? = some (.imap .i64 .i64 (sumsM (zs.take i)))) :
    share_joined.loop1 h3 s ((i : Int), hL sl) = some (.more (((i + 1 : Nat) : Int), hL ((sl ++ [c2 (at2 zs i)]).set p (.imap .i64 .i64 (sumsM (zs.take (i + 1))))))) := by
  have hg1 : 0 ≤ (i : Int) ∧ (i : Int) < (s.len : Int) := by rw [hacc.len]; omega
  have hrow : (sl ++ [c2 (at2 zs i)])[sl.length]? = some (c2 (at2 zs i)) := by simp
  have r1 := rd_c2 hrow
  have hpl := (List.getElem?_eq_some_iff.1 hp).1
  have hqq : (sl ++ [c2 (at2 zs i)])[q]? = some (.own [.map (some p)] 1) := by rw [List.getElem?_append_left (List.getElem?_eq_some_iff.1 hql).1, hql]
  have hpp : (sl ++ [c2 (at2 zs i)])[p]? = some (.imap .i64 .i64 (sumsM (zs.take i))) := by rw [List.getElem?_append_left hpl, hp]
  have hb := amtOf_bound (at2 zs i).1 (zs.take i) fun x hx => hz x (List.mem_of_mem_take hx)
  rw [List.length_take, Nat.min_eq_left (by omega)] at hb
  have hx := hz _ (at2_mem hi)
  unfold share_joined.loop1
  simp -implicitDefEqProofs only [Int.toNat_natCast, guardO_pos hg1]
  rw [decide_eq_true hg1.2, cond_true, Acc.rds2 hacc hi]
  simp -implicitDefEqProofs only [Option.bind_some, hL_new, hL_next]
  rw [new_c2]
  simp -implicitDefEqProofs only [Option.bind_some, hq]
  rw [rd_map hqq, r1.1]
  simp -implicitDefEqProofs only [Option.bind_some]
  rw [imap_hL hpp]
  simp -implicitDefEqProofs only [Option.bind_some]
  rw [r1.2]
  simp -implicitDefEqProofs only [Option.bind_some]
  rw [hL_put (by simp; omega), sumsM_get, i64_succ (by omega), i64_in _ (by omega), sumsM_snoc hi, sumsM_get]
theorem joined_ok {sl : List Slot} (xs ys : List (Int × Int)) (hx : ∀ x ∈ xs, 0 ≤ x.2 ∧ x.2 ≤ 1000000000000000) (hy : ∀ x ∈ ys, 0 ≤ x.2 ∧ x.2 ≤ 1000000000000000) (hl : xs.length + ys.length ≤ 4096) :
    ∃ sl', share_joined (rowSV false j2 xs) (rowSV false j2 ys) (hL sl) = some (.func 88 [.hp sl.length 1 0, .hp (sl.length + 1) 1 0, .hp (sl.length + 3) 1 0], hL sl') ∧ sl.length + 4 ≤ sl'.length ∧
      sl'[sl.length]? = some (slS (rowSV false j2 xs)) ∧ sl'[sl.length + 1]? = some (slS (rowSV false j2 ys)) ∧ sl'[sl.length + 2]? = some (.imap .i64 .i64 (sumsM (xs ++ ys))) ∧ sl'[sl.length + 3]? = some (.own [.map (some (sl.length + 2))] 1) ∧ ∀ j, j < sl.length → sl'[j]? = sl[j]? := by
  have hz : ∀ x ∈ xs ++ ys, 0 ≤ x.2 ∧ x.2 ≤ 1000000000000000 := fun x h => by
    rcases List.mem_append.1 h with h | h
    · exact hx x h
    · exact hy x h
  let sl4 : List Slot := sl ++ [slS (rowSV false j2 xs), slS (rowSV false j2 ys), .imap .i64 .i64 [], .own [.map (some (sl.length + 2))] 1]
  have h4l : sl4.length = sl.length + 4 := by simp [sl4]
  have get : ∀ k, sl4[sl.length + k]? = [slS (rowSV false j2 xs), slS (rowSV false j2 ys), .imap .i64 .i64 [], .own [.map (some (sl.length + 2))] 1][k]? := fun k => by
    simp only [sl4]
    rw [List.getElem?_append_right (by omega)]
    congr 1
    omega
  obtain ⟨s, ext, o, k1, k2, k3⟩ := Concat_ok (sl := sl4) xs ys (by omega)
  unfold share_joined
  simp -implicitDefEqProofs only [evs, reduceIte, rdRes, rdTT, rdTy, rdLT, Res.un, TT.un, Ty.un, LT.un, Leaf.un, Leaf.plain, LT.plain, hL_new, hL_newS, hL_next, List.append_assoc, List.cons_append, List.nil_append]
  have hw : H.wrs (hL (sl ++ [Slot.own [.slice (rowSV false j2 xs).a xs.length xs.length true] 1, Slot.own [.slice (rowSV false j2 ys).a ys.length ys.length true] 1, .imap .i64 .i64 [], .own [.map none] 1])) (.hp (sl.length + 3) 1 0) [.map (some (sl.length + 2))] = some (hL sl4) := by
    rw [wrs_one (u := .map none) (by rw [List.getElem?_append_right (by omega), show sl.length + 3 - sl.length = 3 by omega]; rfl), List.set_append_right _ _ (by omega), show sl.length + 3 - sl.length = 3 by omega]
    rfl
  simp only [List.length_append, List.length_cons, List.length_nil, Nat.zero_add, Nat.reduceAdd]
  rw [hw]
  simp -implicitDefEqProofs only [evs, reduceIte, rdRes, rdTT, rdTy, rdLT, Res.un, TT.un, Ty.un, LT.un, Leaf.un, Leaf.plain, LT.plain]
  rw [rd_sl (s := rowSV false j2 xs) (by have := get 0; simpa using this)]
  simp -implicitDefEqProofs only [evs, reduceIte, rdRes, rdTT, rdTy, rdLT, Res.un, TT.un, Ty.un, LT.un, Leaf.un, Leaf.plain, LT.plain]
  rw [rd_sl (s := rowSV false j2 ys) (by have := get 1; simpa using this)]
  simp -implicitDefEqProofs only [evs, reduceIte, rdRes, rdTT, rdTy, rdLT, Res.un, TT.un, Ty.un, LT.un, Leaf.un, Leaf.plain, LT.plain]
  rw [k1]
  simp -implicitDefEqProofs only [evs, reduceIte, rdRes, rdTT, rdTy, rdLT, Res.un, TT.un, Ty.un, LT.un, Leaf.un, Leaf.plain, LT.plain]
  obtain ⟨x, e1, sl', rfl, e2, e3, e4⟩ := iter_upto (f := share_joined.loop1 (hL (sl ++ [Slot.own [.slice (rowSV false j2 xs).a xs.length xs.length true] 1, Slot.own [.slice (rowSV false j2 ys).a ys.length ys.length true] 1, .imap .i64 .i64 []])) s)
    (fun i st => ∃ sl', st = ((i : Int), hL sl') ∧ sl4.length ≤ sl'.length ∧ sl'[sl.length + 2]? = some (.imap .i64 .i64 (sumsM ((xs ++ ys).take i))) ∧ ∀ j, j ≠ sl.length + 2 → j < (sl4 ++ ext).length → sl'[j]? = (sl4 ++ ext)[j]?)
    (fun x => ∃ sl', x = (.ex0 (), hL sl') ∧ sl4.length ≤ sl'.length ∧ sl'[sl.length + 2]? = some (.imap .i64 .i64 (sumsM (xs ++ ys))) ∧ ∀ j, j ≠ sl.length + 2 → j < (sl4 ++ ext).length → sl'[j]? = (sl4 ++ ext)[j]?) (xs ++ ys).length (fun i st hi hst => by
      obtain ⟨sl', rfl, f1, f2, f3⟩ := hst
      have hacc : Acc sl' j2 (xs ++ ys) s o := k2.frame fun id hid => by
        have h1 := k3 id hid
        subst hid
        exact f3 id (by omega) k2.lt
      refine ⟨_, joined_step (q := sl.length + 3) (p := sl.length + 2) hacc hi hz (by rw [List.length_append]; omega) (by simp [hL_next]) ?_ f2, _, rfl, by simp; omega, ?_, fun j hj hjl => ?_⟩
      · rw [f3 _ (by omega) (by rw [List.length_append]; omega), List.getElem?_append_left (by omega), get 3]; rfl
      · rw [List.getElem?_set_self (by simp; omega)]
      · have h9 := f3 j hj hjl
        rw [List.getElem?_set_ne (Ne.symm hj)]
        have hjl' : j < sl'.length := by
          rcases Nat.lt_or_ge j sl'.length with h | h
          · exact h
          · rw [List.getElem?_eq_none h, List.getElem?_eq_getElem hjl] at h9
            cases h9
        rw [List.getElem?_append_left hjl', h9]) (fun st hst => by
      obtain ⟨sl', rfl, f1, f2, f3⟩ := hst
      rw [List.take_length] at f2
      refine ⟨_, ?_, sl', rfl, f1, f2, f3⟩
      unfold share_joined.loop1
      simp -implicitDefEqProofs only [k2.len]
      rw [decide_eq_false (by omega), cond_false]) FUEL 0 (0, hL (sl4 ++ ext)) (by omega) ⟨_, rfl, by simp, by rw [List.getElem?_append_left (by omega), get 2]; rfl, fun _ _ _ => rfl⟩ (by have := fuel_gt (n := (xs ++ ys).length) (by rw [List.length_append]; omega); omega)
  rw [e1]
  simp -implicitDefEqProofs only [evs, reduceIte, rdRes, rdTT, rdTy, rdLT, Res.un, TT.un, Ty.un, LT.un, Leaf.un, Leaf.plain, LT.plain]
  have at4 : ∀ k, k < 4 → k ≠ 2 → sl'[sl.length + k]? = [slS (rowSV false j2 xs), slS (rowSV false j2 ys), .imap .i64 .i64 [], .own [.map (some (sl.length + 2))] 1][k]? := fun k hk hk2 => by
    rw [e4 _ (by omega) (by rw [List.length_append]; omega), List.getElem?_append_left (by omega), get k]
  refine ⟨sl', rfl, by omega, at4 0 (by omega) (by omega), at4 1 (by omega) (by omega), e3, at4 3 (by omega) (by omega), fun j hj => ?_⟩
  rw [e4 j (by omega) (by rw [List.length_append]; omega), List.append_assoc, List.getElem?_append_left hj]
/-- One round of share.union. -/
theorem round_ok {sl : List Slot} {acc : List (Int × Int)} {s : SV} {o : Option Nat} {N : Nat} {h h3 : H} {x : Int × Int} (hn : h.next = 0) (hN : h3.next = N) (h0 : sl[0]? = some (slS s)) (hl : sl[N]? = some (.loop .ready)) (hacc : Acc sl j2 acc s o) (ho : ∀ id, o = some id → N < id) (hpos : 0 < N) (hal : acc.length ≤ 8192) :
    ∃ sl' s' id, share_union.round1 h h3 x (hL sl) = some (hL sl') ∧ sl'[0]? = some (slS s') ∧ sl'[N]? = some (.loop .ready) ∧ Acc sl' j2 (acc ++ [x]) s' (some id) ∧ N < id ∧ sl.length ≤ sl'.length ∧ ∀ j, 0 < j → j < N → sl'[j]? = sl[j]? := by
  have hNl := (List.getElem?_eq_some_iff.1 hl).1
  have hb : H.begin (hL sl) N = some (hL (sl.set N (.loop .busy))) := by
    unfold H.begin
    rw [hL_m, hl]
    simp only [Option.getD_some]
    rw [hL_put hNl]
  have h0' : (sl.set N (.loop .busy))[0]? = some (slS s) := by rw [List.getElem?_set_ne (by omega), h0]
  have hacc' : Acc (sl.set N (.loop .busy)) j2 acc s o := hacc.frame fun id hid => by
    have := ho id hid
    rw [List.getElem?_set_ne (by omega)]
  obtain ⟨s', sl1, id, k1, k2, k3, k4, k5⟩ := hacc'.append (b := 16) (w := 2) (x := x) (vs := [.int .i64 x.1, .int .i64 x.2]) rfl (by omega) (by omega) (by omega) rfl
  rw [List.length_set] at k3 k4
  have hid : N < id := by
    rcases k3 with k3 | ⟨_, k3⟩
    · exact ho id k3
    · omega
  have no : ∀ j, j ≤ N → o ≠ some j := fun j hj e => by have := ho j e; omega
  have h0'' : sl1[0]? = some (slS s) := by rw [k5 0 (no 0 (by omega)) (by rw [List.length_set]; omega), h0']
  have hNl1 : sl1[N]? = some (.loop .busy) := by rw [k5 N (no N (by omega)) (by rw [List.length_set]; omega), List.getElem?_set_self hNl]
  have hl1 : N < sl1.length := (List.getElem?_eq_some_iff.1 hNl1).1
  refine ⟨(sl1.set 0 (slS s')).set N (.loop .ready), s', id, ?_, ?_, ?_, ?_, hid, by simp; omega, fun j hj1 hj2 => ?_⟩
  · unfold share_union.round1
    simp -implicitDefEqProofs only [hN, hn, hb, Option.bind_some]
    rw [rd_sl h0']
    simp -implicitDefEqProofs only [Option.bind_some]
    rw [k1]
    simp -implicitDefEqProofs only [Option.bind_some]
    rw [wrs_one h0'']
    simp -implicitDefEqProofs only [Option.bind_some]
    unfold H.endR
    rw [hL_m, List.getElem?_set_ne (by omega), hNl1]
    simp only [Option.getD_some]
    rw [hL_put (by rw [List.length_set]; omega)]
  · rw [List.getElem?_set_ne (by omega), List.getElem?_set_self (by omega)]
  · rw [List.getElem?_set_self (by rw [List.length_set]; omega)]
  · refine k2.frame fun id' hid' => ?_
    cases hid'
    rw [List.getElem?_set_ne (by omega), List.getElem?_set_ne (by omega)]
  · rw [List.getElem?_set_ne (by omega), List.getElem?_set_ne (by omega), k5 j (no j (by omega)) (by rw [List.length_set]; omega), List.getElem?_set_ne (by omega)]
end Go.Proofs.Ytbcpdecgfdlaaaa
/- What the parts of a division are: their sum, their bounds; what Draw computes. Conditions: those of each law. -/
namespace Go.Proofs.Ytbcpdecgfdlaaaa
open Go Go.Proofs.Ytbcpdecgfdlaaaa.Ev
set_option linter.unusedVariables false
set_option linter.unusedSimpArgs false
set_option maxRecDepth 100000
set_option maxHeartbeats 4000000
end Go.Proofs.Ytbcpdecgfdlaaaa
/- What Draw of the reference of proportion, share.with, Take, Parts and those of the reference compute. Conditions: those of each law. -/
namespace Go.Proofs.Ytbcpdecgfdlaaaa
open Go Go.Proofs.Ytbcpdecgfdlaaaa.Ev
set_option linter.unusedVariables false
set_option linter.unusedSimpArgs false
set_option maxRecDepth 100000
set_option maxHeartbeats 4000000
end Go.Proofs.Ytbcpdecgfdlaaaa
/- What share.Take, share.Parts and those of the reference compute; the law ShareTakes in plain numbers. Conditions: none. -/
namespace Go.Proofs.Ytbcpdecgfdlaaaa
open Go Go.Proofs.Ytbcpdecgfdlaaaa.Ev
set_option linter.unusedVariables false
set_option linter.unusedSimpArgs false
set_option maxRecDepth 100000
set_option maxHeartbeats 4000000
theorem rdRow_j2 {lp : Bool} {h : H} {xs : List (Int × Int)} : rdRow lp h [.int .i64, .int .i64] ⟨(rowSV true [.int .i64, .int .i64] xs).a, xs.length, xs.length, true⟩ = some xs := rdRow_res rfl
theorem rdRow_i {lp : Bool} {h : H} {xs : List Int} : rdRow lp h [.int .i64] ⟨(rowSV true [.int .i64] xs).a, xs.length, xs.length, true⟩ = some xs := rdRow_res rfl
def amts (xs : List (Int × Int)) : List Int := xs.map (·.2)
theorem same23_ok (a b : List (Int × Int)) (hl : a.length < 2 ^ 63) : spileref22_SameSharesP a b = some (decide (a = b)) := by
  have dec2 : ∀ (x y : Int × Int), (decide (x.1 = y.1) && decide (x.2 = y.2)) = decide (x = y) := fun x y => by
    obtain ⟨x0, x1⟩ := x
    obtain ⟨y0, y1⟩ := y
    simp [Prod.mk.injEq, Bool.decide_and]
  unfold spileref22_SameSharesP spileref22_SameShares
  simp -implicitDefEqProofs only [rowSV_len]
  by_cases hab : a.length = b.length
  · rw [decide_eq_true (show (a.length : Int) = (b.length : Int) by omega)]
    simp -implicitDefEqProofs only [evs, reduceIte, rdRes, rdTT, rdTy, rdLT, Res.un, TT.un, Ty.un, LT.un, Leaf.un, Leaf.plain, LT.plain, rdRow_j2, rdRow_i]
    rw [iter_same a b hab hl (fun i x y hx hy hi => by
      unfold spileref22_SameShares.loop1
      simp -implicitDefEqProofs only [rowSV_len, Int.toNat_natCast, reserve0]
      rw [decide_eq_true (by omega), cond_true, guardO_pos (by omega), rds_rowF (ls := j2) (w := 2) rfl (by omega) rfl, hx, rds_rowF (ls := j2) (w := 2) rfl (by omega) rfl, hy]
      simp -implicitDefEqProofs only [Option.bind_some, dec2]
      rw [guardO_pos (by omega), i64_succ (by omega)]
      cases decide (x = y) <;> rfl) (by
      unfold spileref22_SameShares.loop1
      simp -implicitDefEqProofs only [rowSV_len]
      rw [decide_eq_false (by omega), cond_false])]
    by_cases he : a = b
    · rw [if_pos he, decide_eq_true he]; rfl
    · rw [if_neg he, decide_eq_false he]; rfl
  · rw [decide_eq_false (show ¬ (a.length : Int) = (b.length : Int) by omega), decide_eq_false (show ¬ a = b from fun e => hab (by rw [e]))]
    simp -implicitDefEqProofs only [evs, reduceIte, rdRes, rdTT, rdTy, rdLT, Res.un, TT.un, Ty.un, LT.un, Leaf.un, Leaf.plain, LT.plain, rdRow_j2, rdRow_i]
theorem FewShares_ok (xs : List (Int × Int)) : ∃ b, spileref22_FewSharesP xs = some b ∧ (b = true → xs.length ≤ 37) := by
  unfold spileref22_FewSharesP spileref22_FewShares
  simp -implicitDefEqProofs only [evs, reduceIte, rdRes, rdTT, rdTy, rdLT, Res.un, TT.un, Ty.un, LT.un, Leaf.un, Leaf.plain, LT.plain, rdRow_j2, rdRow_i]
  by_cases h1 : (xs.length : Int) ≤ 12
  · rw [decide_eq_true h1]
    simp -implicitDefEqProofs only [evs, reduceIte, rdRes, rdTT, rdTy, rdLT, Res.un, TT.un, Ty.un, LT.un, Leaf.un, Leaf.plain, LT.plain, rdRow_j2, rdRow_i]
    exact ⟨_, rfl, fun _ => by omega⟩
  · rw [decide_eq_false h1]
    simp -implicitDefEqProofs only [evs, reduceIte, rdRes, rdTT, rdTy, rdLT, Res.un, TT.un, Ty.un, LT.un, Leaf.un, Leaf.plain, LT.plain, rdRow_j2, rdRow_i]
    by_cases h2 : (32 : Int) < (xs.length : Int)
    · rw [decide_eq_true h2]
      simp -implicitDefEqProofs only [evs, reduceIte, rdRes, rdTT, rdTy, rdLT, Res.un, TT.un, Ty.un, LT.un, Leaf.un, Leaf.plain, LT.plain, rdRow_j2, rdRow_i]
      exact ⟨_, rfl, fun h => by have := of_decide_eq_true h; omega⟩
    · rw [decide_eq_false h2]
      simp -implicitDefEqProofs only [evs, reduceIte, rdRes, rdTT, rdTy, rdLT, Res.un, TT.un, Ty.un, LT.un, Leaf.un, Leaf.plain, LT.plain, rdRow_j2, rdRow_i]
      exact ⟨_, rfl, fun h => by simp at h⟩
theorem awake23 : spilelaw23_awakeP = some true := by kernel_rfl
end Go.Proofs.Ytbcpdecgfdlaaaa
/- share.union joins lists of shares; share.Join and that of the reference. Conditions: those of each law. -/
namespace Go.Proofs.Ytbcpdecgfdlaaaa
open Go Go.Proofs.Ytbcpdecgfdlaaaa.Ev
set_option linter.unusedVariables false
set_option linter.unusedSimpArgs false
set_option maxRecDepth 100000
set_option maxHeartbeats 4000000
/-- A list's slice behind its first places. -/
def dropSV (xs : List (Int × Int)) (i : Nat) : SV := ⟨(rowSV false j2 xs).a.add (i * 2), xs.length - i, xs.length - i, true⟩
theorem dropSV_len {xs : List (Int × Int)} {i : Nat} : (dropSV xs i).len = xs.length - i := by unfold dropSV; exact rfl
theorem dropSV_cap {xs : List (Int × Int)} {i : Nat} : (dropSV xs i).cap = xs.length - i := by unfold dropSV; exact rfl
theorem dropSV_tail {xs : List (Int × Int)} {i : Nat} : (dropSV xs i).tail = true := by unfold dropSV; exact rfl
theorem dropSV_rd {xs : List (Int × Int)} {i : Nat} {h : H} (hi : i < xs.length) : rdT (.leaf (.int .i64)) h (((dropSV xs i).a.add 0).add 0) = some (at2 xs i).1 := by
  have e : ((dropSV xs i).a.add 0).add 0 = ((rowSV false j2 xs).a.add (i * 2)).add 0 := by unfold dropSV; simp only [add_add, Nat.add_zero]
  rw [e, (rd_at2 hi).1]
theorem dropSV_nn {xs : List (Int × Int)} {i : Nat} (hi : i < xs.length) : V.nn ((dropSV xs i).a.add 0) = true := by
  have e : (dropSV xs i).a.add 0 = (rowSV false j2 xs).a.add (i * 2) := by unfold dropSV; simp only [add_add, Nat.add_zero]
  rw [e, nn_at2 hi]
theorem dropSV_next {xs : List (Int × Int)} {i : Nat} : V.slice (V.add (dropSV xs i).a (Int.toNat 1 * 2)) (Int.toNat ((xs.length - i : Nat) : Int) - Int.toNat 1) (xs.length - i - Int.toNat 1) true = .slice (dropSV xs (i + 1)).a (dropSV xs (i + 1)).len (dropSV xs (i + 1)).cap (dropSV xs (i + 1)).tail := by
  have e : (dropSV xs i).a.add (Int.toNat 1 * 2) = (dropSV xs (i + 1)).a := by
    unfold dropSV
    simp only [add_add]
    congr 1
    show i * 2 + 1 * 2 = (i + 1) * 2
    omega
  rw [e, dropSV_len, dropSV_cap, dropSV_tail, Int.toNat_natCast, show Int.toNat 1 = 1 from rfl, show xs.length - i - 1 = xs.length - (i + 1) by omega]
theorem yield_call {N : Nat} {f : TT [.leaf (.int .i64), .leaf (.int .i64)] → H → Option H} {a b : Int} {h : H} {R : Type} {k : V → H → Option R} :
    callV (withY Table.nil (mkY [.leaf (.int .i64), .leaf (.int .i64)] N f)).dy (.yld N) [.int .i64 a, .int .i64 b] h k = (f (a, b) h).bind fun h' => k (.bool true) h' := by
  have : Nat.beq N N = true := Nat.beq_refl N
  simp [callV, withY, mkY, this, TT.pack, Ty.pack, Leaf.pack]
theorem pack_true : Res.pack (.one (.leaf .bool)) (.bool true) = some true := rfl
/-- What holds between the rounds. -/
structure UInv (xs ys : List (Int × Int)) (es : List (Int × Int)) (N i k : Nat) (acc : List (Int × Int)) (sl : List Slot) : Prop where
  s1 : sl[1]? = some (slS (dropSV xs i))
  s2 : sl[2]? = some (slS (dropSV ys k))
  s3 : sl[3]? = some (.imap .i64 .i64 es)
  s4 : sl[4]? = some (.own [.map (some 3)] 1)
  sN : sl[N]? = some (.loop .ready)
  out : ∃ s o, sl[0]? = some (slS s) ∧ Acc sl j2 acc s o ∧ ∀ id, o = some id → N < id
abbrev gF (es : List (Int × Int)) (p : Int × Int) : Int × Int := (p.1, (getM p.1 es).getD 0)
theorem ujoin_step {xs ys es acc : List (Int × Int)} {N i k : Nat} {sl : List Slot} {h h3 : H} (hn : h.next = 0) (hN : h3.next = N) (hN5 : 4 < N) (inv : UInv xs ys es N i k acc sl) (hi : i ≤ xs.length) (hk : k ≤ ys.length) (hik : i < xs.length ∨ k < ys.length) (hl : xs.length + ys.length ≤ 4096) (ha : acc.length ≤ i + k) :
    ∃ (acc' : List (Int × Int)) (sl' : List Slot) (i' k' : Nat), share_joined_1.loop1 (withY Table.nil (mkY [.leaf (.int .i64), .leaf (.int .i64)] N (share_union.round1 h h3))) (.yld N) (.hp 1 1 0) (.hp 2 1 0) (.hp 4 1 0) ((), hL sl) = some (.more ((), hL sl')) ∧ UInv xs ys es N i' k' acc' sl' ∧ acc'.length ≤ i' + k' ∧ i' ≤ xs.length ∧ k' ≤ ys.length ∧ i + k < i' + k' ∧
      acc' ++ (joinL (xs.drop i') (ys.drop k')).map (gF es) = acc ++ (joinL (xs.drop i) (ys.drop k)).map (gF es) := by
  obtain ⟨i1, i2, i3, i4, iN, s, o, h0, hacc, ho⟩ := inv
  -- what a round does behind a choice
  have fin : ∀ (sl1 : List Slot) (i' k' : Nat) (f : Int), sl1.length = sl.length → (∀ j, j ≠ 1 → j ≠ 2 → sl1[j]? = sl[j]?) → sl1[1]? = some (slS (dropSV xs i')) → sl1[2]? = some (slS (dropSV ys k')) →
      ∃ sl', ((rdT (.leaf .map) (hL sl1) (.hp 4 1 0)).bind fun x47 => (match (x47 : Option Nat) with
        | none => none
        | some r49 => ((H.imap (hL sl1) r49 .i64 .i64).bind fun es48 => (callV (withY Table.nil (mkY [.leaf (.int .i64), .leaf (.int .i64)] N (share_union.round1 h h3))).dy (.yld N) [.int .i64 f, .int .i64 ((getM f es48).getD 0)] (hL sl1) fun v50 h51 => (Res.pack (.one (.leaf .bool)) v50).bind fun r52 =>
          (bif (!r52) then (some (.done (.ret (), h51))) else (some (.more ((), h51))) : Option (Stp (Unit × H) (Flow Unit Unit × H))))))) = some (.more ((), hL sl')) ∧ UInv xs ys es N i' k' (acc ++ [(f, (getM f es).getD 0)]) sl' := fun sl1 i' k' f hlen hsame e1 e2 => by
    have hacc1 : Acc sl1 j2 acc s o := hacc.frame fun id hid => by
      have := ho id hid
      rw [hsame id (by omega) (by omega)]
    obtain ⟨sl', s', id, r1, r2, r3, r4, r5, r6, r7⟩ := round_ok (x := (f, (getM f es).getD 0)) hn hN (by rw [hsame 0 (by omega) (by omega), h0]) (by rw [hsame N (by omega) (by omega), iN]) hacc1 ho (by omega) (by omega)
    refine ⟨sl', ?_, ⟨by rw [r7 1 (by omega) (by omega), e1], by rw [r7 2 (by omega) (by omega), e2], by rw [r7 3 (by omega) (by omega), hsame 3 (by omega) (by omega), i3], by rw [r7 4 (by omega) (by omega), hsame 4 (by omega) (by omega), i4], r3, s', some id, r2, r4, fun id' h' => by cases h'; exact r5⟩⟩
    rw [rd_map (by rw [hsame 4 (by omega) (by omega), i4])]
    simp -implicitDefEqProofs only [Option.bind_some]
    rw [imap_hL (by rw [hsame 3 (by omega) (by omega), i3])]
    simp -implicitDefEqProofs only [Option.bind_some]
    rw [yield_call, r1]
    simp -implicitDefEqProofs only [Option.bind_some, pack_true, evs, reduceIte, rdRes, rdTT, rdTy, rdLT, Res.un, TT.un, Ty.un, LT.un, Leaf.un, Leaf.plain, LT.plain]
  have rd1 := rd_sl i1
  have rd2 := rd_sl i2
  have l1 := (List.getElem?_eq_some_iff.1 i1).1
  have l2 := (List.getElem?_eq_some_iff.1 i2).1
  have first : (i < xs.length ∧ (k = ys.length ∨ k < ys.length ∧ (at2 xs i).1 < (at2 ys k).1)) ∨ (k < ys.length ∧ (i = xs.length ∨ i < xs.length ∧ (at2 ys k).1 < (at2 xs i).1)) ∨ (i < xs.length ∧ k < ys.length ∧ (at2 xs i).1 = (at2 ys k).1) := by
    rcases Nat.lt_or_ge i xs.length with h1 | h1
    · rcases Nat.lt_or_ge k ys.length with h2 | h2
      · rcases Int.lt_trichotomy (at2 xs i).1 (at2 ys k).1 with h3 | h3 | h3
        · exact .inl ⟨h1, .inr ⟨h2, h3⟩⟩
        · exact .inr (.inr ⟨h1, h2, h3⟩)
        · exact .inr (.inl ⟨h2, .inr ⟨h1, h3⟩⟩)
      · exact .inl ⟨h1, .inl (by omega)⟩
    · exact .inr (.inl ⟨by omega, .inl (by omega)⟩)
  have gx : i < xs.length → (0 : Int) ≤ 0 ∧ (0 : Int) < ((xs.length - i : Nat) : Int) := fun h => by omega
  have gy : k < ys.length → (0 : Int) ≤ 0 ∧ (0 : Int) < ((ys.length - k : Nat) : Int) := fun h => by omega
  have qx : i < xs.length → (0 : Int) ≤ 1 ∧ (1 : Int) ≤ ((xs.length - i : Nat) : Int) ∧ ((xs.length - i : Nat) : Int) ≤ ((xs.length - i : Nat) : Int) := fun h => by omega
  have qy : k < ys.length → (0 : Int) ≤ 1 ∧ (1 : Int) ≤ ((ys.length - k : Nat) : Int) ∧ ((ys.length - k : Nat) : Int) ≤ ((ys.length - k : Nat) : Int) := fun h => by omega
  have px : i < xs.length → decide ((0 : Int) < ((xs.length - i : Nat) : Int)) = true := fun h => decide_eq_true (by omega)
  have py : k < ys.length → decide ((0 : Int) < ((ys.length - k : Nat) : Int)) = true := fun h => decide_eq_true (by omega)
  have zx : i < xs.length → decide (((xs.length - i : Nat) : Int) = 0) = false := fun h => decide_eq_false (by omega)
  have zy : k < ys.length → decide (((ys.length - k : Nat) : Int) = 0) = false := fun h => decide_eq_false (by omega)
  rcases first with ⟨h1, h2⟩ | ⟨h1, h2⟩ | ⟨h1, h2, h3⟩
  · obtain ⟨sl', f1, f2⟩ := fin (sl.set 1 (slS (dropSV xs (i + 1)))) (i + 1) k (at2 xs i).1 (by simp) (fun j hj _ => by rw [List.getElem?_set_ne (Ne.symm hj)]) (by rw [List.getElem?_set_self l1]) (by rw [List.getElem?_set_ne (by omega), i2])
    refine ⟨_, sl', i + 1, k, ?_, f2, by simp; omega, by omega, hk, by omega, ?_⟩
    · unfold share_joined_1.loop1
      rcases h2 with h2 | ⟨h2, h3⟩
      · simp -implicitDefEqProofs only [evs, reduceIte, rdRes, rdTT, rdTy, rdLT, Res.un, TT.un, Ty.un, LT.un, Leaf.un, Leaf.plain, LT.plain, rd1, rd2, dropSV_len, dropSV_cap, dropSV_tail, px h1, decide_eq_true (show ((ys.length - k : Nat) : Int) = 0 by omega), guardO_pos (gx h1), guardO_pos (dropSV_nn h1), dropSV_rd h1, guardO_pos (qx h1)]
        rw [dropSV_next, wrs_one i1]
        simp -implicitDefEqProofs only [evs, reduceIte, rdRes, rdTT, rdTy, rdLT, Res.un, TT.un, Ty.un, LT.un, Leaf.un, Leaf.plain, LT.plain]
        exact f1
      · simp -implicitDefEqProofs only [evs, reduceIte, rdRes, rdTT, rdTy, rdLT, Res.un, TT.un, Ty.un, LT.un, Leaf.un, Leaf.plain, LT.plain, rd1, rd2, dropSV_len, dropSV_cap, dropSV_tail, px h1, zy h2, guardO_pos (gx h1), guardO_pos (gy h2), guardO_pos (dropSV_nn h1), guardO_pos (dropSV_nn h2), dropSV_rd h1, dropSV_rd h2, guardO_pos (qx h1), decide_eq_true h3]
        rw [dropSV_next, wrs_one i1]
        simp -implicitDefEqProofs only [evs, reduceIte, rdRes, rdTT, rdTy, rdLT, Res.un, TT.un, Ty.un, LT.un, Leaf.un, Leaf.plain, LT.plain]
        exact f1
    · rw [drop_at2 h1, List.append_assoc]
      rcases h2 with rfl | ⟨h2, h3⟩
      · simp [joinL_nil]
      · rw [drop_at2 h2, joinL_lt h3]; rfl
  · obtain ⟨sl', f1, f2⟩ := fin (sl.set 2 (slS (dropSV ys (k + 1)))) i (k + 1) (at2 ys k).1 (by simp) (fun j _ hj => by rw [List.getElem?_set_ne (Ne.symm hj)]) (by rw [List.getElem?_set_ne (by omega), i1]) (by rw [List.getElem?_set_self l2])
    refine ⟨_, sl', i, k + 1, ?_, f2, by simp; omega, hi, by omega, by omega, ?_⟩
    · unfold share_joined_1.loop1
      rcases h2 with h2 | ⟨h2, h3⟩
      · simp -implicitDefEqProofs only [evs, reduceIte, rdRes, rdTT, rdTy, rdLT, Res.un, TT.un, Ty.un, LT.un, Leaf.un, Leaf.plain, LT.plain, rd1, rd2, dropSV_len, dropSV_cap, dropSV_tail, py h1, zy h1, decide_eq_false (show ¬ (0 : Int) < ((xs.length - i : Nat) : Int) by omega), decide_eq_true (show ((xs.length - i : Nat) : Int) = 0 by omega), guardO_pos (gy h1), guardO_pos (dropSV_nn h1), dropSV_rd h1, guardO_pos (qy h1)]
        rw [dropSV_next, wrs_one i2]
        simp -implicitDefEqProofs only [evs, reduceIte, rdRes, rdTT, rdTy, rdLT, Res.un, TT.un, Ty.un, LT.un, Leaf.un, Leaf.plain, LT.plain]
        exact f1
      · simp -implicitDefEqProofs only [evs, reduceIte, rdRes, rdTT, rdTy, rdLT, Res.un, TT.un, Ty.un, LT.un, Leaf.un, Leaf.plain, LT.plain, rd1, rd2, dropSV_len, dropSV_cap, dropSV_tail, px h2, zx h2, zy h1, guardO_pos (gx h2), guardO_pos (gy h1), guardO_pos (dropSV_nn h1), guardO_pos (dropSV_nn h2), dropSV_rd h1, dropSV_rd h2, guardO_pos (qy h1), decide_eq_true h3, decide_eq_false (show ¬ (at2 xs i).1 < (at2 ys k).1 by omega)]
        rw [dropSV_next, wrs_one i2]
        simp -implicitDefEqProofs only [evs, reduceIte, rdRes, rdTT, rdTy, rdLT, Res.un, TT.un, Ty.un, LT.un, Leaf.un, Leaf.plain, LT.plain]
        exact f1
    · rw [drop_at2 h1, List.append_assoc]
      rcases h2 with rfl | ⟨h2, h3⟩
      · simp [nil_joinL]
      · rw [drop_at2 h2, joinL_gt h3]; rfl
  · obtain ⟨sl', f1, f2⟩ := fin ((sl.set 1 (slS (dropSV xs (i + 1)))).set 2 (slS (dropSV ys (k + 1)))) (i + 1) (k + 1) (at2 xs i).1 (by simp) (fun j hj1 hj => by rw [List.getElem?_set_ne (Ne.symm hj), List.getElem?_set_ne (Ne.symm hj1)]) (by rw [List.getElem?_set_ne (by omega), List.getElem?_set_self l1]) (by rw [List.getElem?_set_self (by simpa using l2)])
    refine ⟨_, sl', i + 1, k + 1, ?_, f2, by simp; omega, by omega, by omega, by omega, ?_⟩
    · have i2' : (sl.set 1 (slS (dropSV xs (i + 1))))[2]? = some (slS (dropSV ys k)) := by rw [List.getElem?_set_ne (by omega), i2]
      unfold share_joined_1.loop1
      simp -implicitDefEqProofs only [evs, reduceIte, rdRes, rdTT, rdTy, rdLT, Res.un, TT.un, Ty.un, LT.un, Leaf.un, Leaf.plain, LT.plain, rd1, rd2, dropSV_len, dropSV_cap, dropSV_tail, px h1, zx h1, zy h2, guardO_pos (gx h1), guardO_pos (gy h2), guardO_pos (dropSV_nn h1), guardO_pos (dropSV_nn h2), dropSV_rd h1, dropSV_rd h2, guardO_pos (qx h1), guardO_pos (qy h2), decide_eq_false (show ¬ (at2 xs i).1 < (at2 ys k).1 by omega), decide_eq_false (show ¬ (at2 ys k).1 < (at2 xs i).1 by omega)]
      rw [dropSV_next, dropSV_next, wrs_one i1]
      simp -implicitDefEqProofs only [evs, reduceIte, rdRes, rdTT, rdTy, rdLT, Res.un, TT.un, Ty.un, LT.un, Leaf.un, Leaf.plain, LT.plain]
      rw [wrs_one i2']
      simp -implicitDefEqProofs only [evs, reduceIte, rdRes, rdTT, rdTy, rdLT, Res.un, TT.un, Ty.un, LT.un, Leaf.un, Leaf.plain, LT.plain]
      rw [guardO_pos (by rfl)]
      simp -implicitDefEqProofs only [evs, reduceIte, rdRes, rdTT, rdTy, rdLT, Res.un, TT.un, Ty.un, LT.un, Leaf.un, Leaf.plain, LT.plain]
      exact f1
    · rw [drop_at2 h1, drop_at2 h2, joinL_eq h3, List.append_assoc]; rfl
theorem ujoin_call {Y : Entry} {N a b c : Nat} {h : H} : callIt (share_union.tb).dy Y (.func 88 [.hp a 1 0, .hp b 1 0, .hp c 1 0]) [.yld N] h = (share_joined_1 (withY Table.nil Y) (.yld N) (.hp a 1 0) (.hp b 1 0) (.hp c 1 0) h).bind fun p => some p.2 := by
  have : (share_union.tb).dy.it 88 Y = share_joined_1.it Y := rfl
  simp only [callIt, this, share_joined_1.it, mkX]
  simp [TT.pack, Ty.pack, Leaf.pack]
theorem union_ok (xs ys : List (Int × Int)) (hx : ∀ x ∈ xs, 0 ≤ x.2 ∧ x.2 ≤ 1000000000000000) (hy : ∀ x ∈ ys, 0 ≤ x.2 ∧ x.2 ≤ 1000000000000000) (hl : xs.length + ys.length ≤ 4096) (sx : SortedF xs) (sy : SortedF ys) : share_unionP xs ys = some (joinL xs ys) := by
  obtain ⟨sl, k1, k2, k3, k4, k5, k6, k7⟩ := joined_ok (sl := [slS ⟨.nil, 0, 0, false⟩]) xs ys hx hy hl
  simp only [List.length_cons, List.length_nil, Nat.zero_add, Nat.reduceAdd] at k1 k2 k3 k4 k5 k6 k7
  unfold share_unionP share_union
  simp -implicitDefEqProofs only [evs, reduceIte, rdRes, rdTT, rdTy, rdLT, Res.un, TT.un, Ty.un, LT.un, Leaf.un, Leaf.plain, LT.plain, hL_empty, hL_new, hL_next, List.nil_append]
  rw [k1]
  simp -implicitDefEqProofs only [evs, reduceIte, rdRes, rdTT, rdTy, rdLT, Res.un, TT.un, Ty.un, LT.un, Leaf.un, Leaf.plain, LT.plain, hL_newS, hL_next]
  rw [ujoin_call]
  have hg : ∀ i, i < sl.length → (sl ++ [Slot.loop .ready])[i]? = sl[i]? := fun i hi => by rw [List.getElem?_append_left hi]
  have inv0 : UInv xs ys (sumsM (xs ++ ys)) sl.length 0 0 [] (sl ++ [Slot.loop .ready]) :=
    ⟨by rw [hg 1 (by omega), k3]; rfl, by rw [hg 2 (by omega), k4]; rfl, by rw [hg 3 (by omega), k5], by rw [hg 4 (by omega), k6], by simp, ⟨⟨.nil, 0, 0, false⟩, none, by rw [hg 0 (by omega), k7 0 (by omega)]; rfl, Acc.nil, fun _ h => by cases h⟩⟩
  unfold share_joined_1
  obtain ⟨x, h1, sl', rfl, h2⟩ := iter_inv (f := share_joined_1.loop1 (withY Table.nil (mkY [.leaf (.int .i64), .leaf (.int .i64)] sl.length (share_union.round1 (hL []) (hL sl)))) (.yld sl.length) (.hp 1 1 0) (.hp 2 1 0) (.hp 4 1 0))
    (Inv := fun st => ∃ (acc : List (Int × Int)) (sl' : List Slot) (i k : Nat), st = ((), hL sl') ∧ UInv xs ys (sumsM (xs ++ ys)) sl.length i k acc sl' ∧ acc.length ≤ i + k ∧ i ≤ xs.length ∧ k ≤ ys.length ∧ acc ++ (joinL (xs.drop i) (ys.drop k)).map (gF (sumsM (xs ++ ys))) = (joinL xs ys).map (gF (sumsM (xs ++ ys))))
    (Post := fun x => ∃ sl', x = (.ex0 (), hL sl') ∧ UInv xs ys (sumsM (xs ++ ys)) sl.length xs.length ys.length ((joinL xs ys).map (gF (sumsM (xs ++ ys)))) sl') (fun st => ((rdT (.leaf .slice) st.2 (.hp 1 1 0)).map (·.len)).getD 0 + ((rdT (.leaf .slice) st.2 (.hp 2 1 0)).map (·.len)).getD 0) (fun st hst => by
      obtain ⟨acc, sl', i, k, rfl, inv, ha, hi, hk, he⟩ := hst
      by_cases hik : i < xs.length ∨ k < ys.length
      · obtain ⟨acc', sl2, i', k', e1, e2, e3, e4, e5, e6, e7⟩ := ujoin_step (N := sl.length) (h := hL []) (h3 := hL sl) rfl rfl (by omega) inv hi hk hik hl ha
        refine .inl ⟨_, e1, ⟨acc', sl2, i', k', rfl, e2, e3, e4, e5, by rw [e7, he]⟩, ?_⟩
        simp only [rd_sl inv.s1, rd_sl inv.s2, rd_sl e2.s1, rd_sl e2.s2, Option.map_some, Option.getD_some, dropSV_len]
        omega
      · refine .inr ⟨(.ex0 (), hL sl'), ?_, sl', rfl, ?_⟩
        · unfold share_joined_1.loop1
          simp -implicitDefEqProofs only [evs, reduceIte, rdRes, rdTT, rdTy, rdLT, Res.un, TT.un, Ty.un, LT.un, Leaf.un, Leaf.plain, LT.plain, rd_sl inv.s1, rd_sl inv.s2, dropSV_len, decide_eq_false (show ¬ (0 : Int) < ((xs.length - i : Nat) : Int) by omega), decide_eq_false (show ¬ (0 : Int) < ((ys.length - k : Nat) : Int) by omega)]
        · rw [List.drop_eq_nil_of_le (show xs.length ≤ i by omega), List.drop_eq_nil_of_le (show ys.length ≤ k by omega), nil_joinL, List.map_nil, List.append_nil] at he
          obtain rfl : i = xs.length := by omega
          obtain rfl : k = ys.length := by omega
          rw [← he]; exact inv) FUEL ((), hL (sl ++ [Slot.loop .ready])) ⟨[], _, 0, 0, rfl, inv0, by simp, by omega, by omega, by simp⟩ (by
      simp only [rd_sl inv0.s1, rd_sl inv0.s2, Option.map_some, Option.getD_some, dropSV_len]
      have := fuel_gt (n := xs.length + ys.length) (by omega); omega)
  rw [h1]
  obtain ⟨i1, i2, i3, i4, iN, s, o, h0, hacc, ho⟩ := h2
  simp -implicitDefEqProofs only [evs, reduceIte, rdRes, rdTT, rdTy, rdLT, Res.un, TT.un, Ty.un, LT.un, Leaf.un, Leaf.plain, LT.plain]
  unfold H.endL
  rw [hL_m, iN]
  simp only [Option.getD_some]
  have hNl := (List.getElem?_eq_some_iff.1 iN).1
  rw [hL_put hNl]
  simp -implicitDefEqProofs only [evs, reduceIte, rdRes, rdTT, rdTy, rdLT, Res.un, TT.un, Ty.un, LT.un, Leaf.un, Leaf.plain, LT.plain]
  rw [rd_sl (s := s) (by rw [List.length_nil, List.getElem?_set_ne (by omega), h0])]
  simp -implicitDefEqProofs only [evs, reduceIte, rdRes, rdTT, rdTy, rdLT, Res.un, TT.un, Ty.un, LT.un, Leaf.un, Leaf.plain, LT.plain]
  have hacc' : Acc (sl'.set sl.length (.loop .exhausted)) j2 ((joinL xs ys).map (gF (sumsM (xs ++ ys)))) s o := hacc.frame fun id hid => by
    have := ho id hid
    rw [List.getElem?_set_ne (by omega)]
  rw [hacc'.read rfl]
  have e : (joinL xs ys).map (gF (sumsM (xs ++ ys))) = joinL xs ys := by
    have := joinL_map xs ys sx sy
    rw [List.map_map] at this
    rw [show gF (sumsM (xs ++ ys)) = ((fun f => (f, amtOf f xs + amtOf f ys)) ∘ fun x : Int × Int => x.1) from by
      funext p
      simp only [gF, Function.comp, sumsM_get, amtOf_append], this]
  rw [e]
end Go.Proofs.Ytbcpdecgfdlaaaa
/- share.Join and that of the reference; the law ShareJoins in plain numbers. Conditions: none. -/
namespace Go.Proofs.Ytbcpdecgfdlaaaa
open Go Go.Proofs.Ytbcpdecgfdlaaaa.Ev
set_option linter.unusedVariables false
set_option linter.unusedSimpArgs false
set_option maxRecDepth 100000
set_option maxHeartbeats 4000000
/-- Right shares are in order. -/
theorem shareCheck_sorted {xs : List (Int × Int)} (h : shareCheck xs = 0) : SortedF xs := by
  obtain ⟨_, h2, _, _⟩ := shareCheck_ok h
  have step : ∀ i, i + 1 < xs.length → (at2 xs i).1 < (at2 xs (i + 1)).1 := fun i hi => by
    have h3 := h2 (i + 1) hi
    have h4 := sfault_ok h3
    unfold sfault at h3
    rw [if_pos h4] at h3
    by_cases h5 : 0 < i + 1 ∧ (at2 xs (i + 1)).1 ≤ (at2 xs (i + 1 - 1)).1
    · rw [if_pos h5] at h3; cases h3
    · rw [Nat.add_sub_cancel] at h5
      have : ¬ (at2 xs (i + 1)).1 ≤ (at2 xs i).1 := fun h6 => h5 ⟨by omega, h6⟩
      omega
  have all : ∀ d i, i + d + 1 < xs.length → (at2 xs i).1 < (at2 xs (i + d + 1)).1 := fun d => by
    induction d with
    | zero => exact fun i hi => step i hi
    | succ d ih =>
      intro i hi
      have h3 := ih i (by omega)
      have h4 := step (i + d + 1) hi
      rw [show i + (d + 1) + 1 = i + d + 1 + 1 by omega]
      omega
  refine List.pairwise_iff_getElem.2 fun i j hi hj hij => ?_
  have h3 := all (j - i - 1) i (by omega)
  rw [show i + (j - i - 1) + 1 = j by omega] at h3
  have e1 := at2_some hi
  have e2 := at2_some hj
  rw [List.getElem?_eq_getElem hi] at e1
  rw [List.getElem?_eq_getElem hj] at e2
  rw [Option.some.inj e1, Option.some.inj e2]
  exact h3
theorem okS_bound' {xs : List (Int × Int)} (h : ∀ x ∈ xs, okS x = true) : ∀ x ∈ xs, 0 ≤ x.2 ∧ x.2 ≤ 10737418240000 := fun x hx => by
  have := okS_iff.1 (h x hx)
  omega
end Go.Proofs.Ytbcpdecgfdlaaaa
/- Parts of a sum, in plain numbers; the law ShareParts. Conditions: none. -/
namespace Go.Proofs.Ytbcpdecgfdlaaaa
open Go Go.Proofs.Ytbcpdecgfdlaaaa.Ev
set_option linter.unusedVariables false
set_option linter.unusedSimpArgs false
set_option maxRecDepth 100000
set_option maxHeartbeats 4000000
end Go.Proofs.Ytbcpdecgfdlaaaa
/- The law ShareWhole in plain numbers. Conditions: none. -/
namespace Go.Proofs.Ytbcpdecgfdlaaaa
open Go Go.Proofs.Ytbcpdecgfdlaaaa.Ev
set_option linter.unusedVariables false
set_option linter.unusedSimpArgs false
set_option maxRecDepth 100000
set_option maxHeartbeats 4000000
/-- What makes shares right. -/
theorem shareCheck_intro {xs : List (Int × Int)} (h1 : xs.length ≤ 32) (h2 : ∀ x ∈ xs, okS x = true) (h3 : SortedF xs) (h4 : sumA xs ≤ 10737418240000) : shareCheck xs = 0 := by
  have hf : ∀ i, i < xs.length → sfault xs i = 0 := fun i hi => by
    unfold sfault
    rw [if_pos (h2 _ (at2_mem hi))]
    by_cases h0 : 0 < i
    · have := List.pairwise_iff_getElem.1 h3 (i - 1) i (by omega) hi (by omega)
      have e1 := at2_some (xs := xs) (i := i - 1) (by omega)
      have e2 := at2_some hi
      rw [List.getElem?_eq_getElem (by omega)] at e1
      rw [List.getElem?_eq_getElem hi] at e2
      rw [Option.some.inj e1, Option.some.inj e2] at this
      rw [if_neg (by omega)]
    · rw [if_neg (fun h => h0 h.1)]
  unfold shareCheck
  rw [if_neg (by omega)]
  rcases first_cases (sfault xs) xs.length with ⟨_, e⟩ | ⟨m, hm, hne, _⟩
  · rw [e, if_pos rfl, if_neg (by omega)]
  · exact absurd (hf m hm) hne
end Go.Proofs.Ytbcpdecgfdlaaaa
/- What Sum of package mix computes. Conditions: those of each law. -/
namespace Go.Proofs.Ytbcpdecgfdlaaaa
open Go Go.Proofs.Ytbcpdecgfdlaaaa.Ev
set_option linter.unusedVariables false
set_option linter.unusedSimpArgs false
set_option maxRecDepth 100000
set_option maxHeartbeats 4000000
theorem IndexFunc_liq {T : Table} {v : V} {h : H} {xs : List (Int × Int)} {f : Bool} (p : Int × Int → Bool) (hn : xs.length < 2 ^ 63) (hc : ∀ x ∈ xs, ∀ {R : Type} (k : V → H → Option R), callV T.dy v [.agg [.int .i64 x.1, .int .i64 x.2]] h k = k (.bool (p x)) h) :
    slices_IndexFunc_api_Liquid_api_Liquid T (rowSV f [.int .i64, .int .i64] xs) v h = some (idxOf p xs, h) := by
  unfold slices_IndexFunc_api_Liquid_api_Liquid
  rw [iter_find xs p (fun i => (i : Int)) hn (fun i x hx => by
    obtain ⟨hlt, rfl⟩ := List.getElem?_eq_some_iff.1 hx
    unfold slices_IndexFunc_api_Liquid_api_Liquid.loop1
    simp only [rowSV_len, Int.toNat_natCast]
    rw [decide_eq_true (by omega), cond_true, guardO_pos (by omega), rds_rowF (ls := j2) (w := 2) rfl (by omega) rfl, hx]
    simp only [Option.bind_some]
    rw [hc _ (List.getElem_mem hlt)]
    simp only [Res.pack, Ty.pack, Leaf.pack, Option.bind_some]
    rw [i64_succ (by omega)]
    cases p xs[i] <;> rfl) (by
    unfold slices_IndexFunc_api_Liquid_api_Liquid.loop1
    simp only [rowSV_len]
    rw [decide_eq_false (by omega), cond_false])]
  unfold idxOf
  cases xs.findIdx? p <;> rfl
theorem ContainsFunc_liq {T : Table} {v : V} {h : H} {xs : List (Int × Int)} {f : Bool} (p : Int × Int → Bool) (hn : xs.length < 2 ^ 63) (hc : ∀ x ∈ xs, ∀ {R : Type} (k : V → H → Option R), callV T.dy v [.agg [.int .i64 x.1, .int .i64 x.2]] h k = k (.bool (p x)) h) :
    slices_ContainsFunc_api_Liquid_api_Liquid T (rowSV f [.int .i64, .int .i64] xs) v h = some (xs.any p, h) := by
  unfold slices_ContainsFunc_api_Liquid_api_Liquid
  rw [IndexFunc_liq (T := slices_ContainsFunc_api_Liquid_api_Liquid.tb T) p hn hc]
  simp only [Option.bind_some, idxOf_nonneg]
theorem sum1_ok (a v : Int) : mix_Sum_1P (a, v) = some (!isPlain (a, v)) := by
  unfold mix_Sum_1P mix_Sum_1
  simp -implicitDefEqProofs only [evs, reduceIte, rdRes, rdTT, rdTy, rdLT, Res.un, TT.un, Ty.un, LT.un, Leaf.un, Leaf.plain, LT.plain, evh, List.replicate, splice, LT.pack, Leaf.pack, Nat.reduceAdd, Nat.reduceSub, Nat.reduceLeDiff, Nat.reduceLT, Nat.reduceEqDiff, LT.lo, Leaf.lo]
  rw [plain_ok]
  simp -implicitDefEqProofs only [evs, reduceIte, rdRes, rdTT, rdTy, rdLT, Res.un, TT.un, Ty.un, LT.un, Leaf.un, Leaf.plain, LT.plain, evh, List.replicate, splice, LT.pack, Leaf.pack, Nat.reduceAdd, Nat.reduceSub, Nat.reduceLeDiff, Nat.reduceLT, Nat.reduceEqDiff, LT.lo, Leaf.lo]
/-- The sum of liquids. -/
def sumL (xs : List (Int × Int)) : Int × Int := ((xs.map (·.1)).sum, (xs.map (·.2)).sum)
theorem sumL_take {xs : List (Int × Int)} {i : Nat} {x : Int × Int} (h : xs[i]? = some x) : sumL (xs.take (i + 1)) = ((sumL (xs.take i)).1 + x.1, (sumL (xs.take i)).2 + x.2) := by
  obtain ⟨hi, rfl⟩ := List.getElem?_eq_some_iff.1 h
  rw [← List.take_append_getElem hi]
  unfold sumL
  simp only [List.map_append, List.map_cons, List.map_nil, List.sum_append, List.sum_cons, List.sum_nil, Int.add_zero]
theorem sumL_bound {xs : List (Int × Int)} (h : ∀ x ∈ xs, isPlain x = true) : 0 ≤ (sumL xs).1 ∧ (sumL xs).1 ≤ xs.length * 10737418240000 ∧ 0 ≤ (sumL xs).2 ∧ (sumL xs).2 ≤ xs.length * 128849018880000 := by
  induction xs with
  | nil => simp [sumL]
  | cons x xs ih =>
    have h1 := ih fun y hy => h y (by simp [hy])
    have h2 := isPlain_iff.1 (h x (by simp))
    simp only [sumL, List.map_cons, List.sum_cons, List.length_cons] at h1 ⊢
    omega
def slotsT (xs : List (Int × Int)) (i : Nat) : List Slot := c2 (0, 0) :: c2 (sumL (xs.take i)) :: (xs.take i).map c2
theorem slotsT_succ {xs : List (Int × Int)} {i : Nat} {x : Int × Int} (h : xs[i]? = some x) : (slotsT xs i ++ [c2 x]).set 1 (c2 ((sumL (xs.take i)).1 + x.1, (sumL (xs.take i)).2 + x.2)) = slotsT xs (i + 1) := by
  unfold slotsT
  rw [sumL_take h]
  obtain ⟨hi, rfl⟩ := List.getElem?_eq_some_iff.1 h
  rw [← List.take_append_getElem hi, List.map_append]
  rfl
theorem wr0_c2 {sl : List Slot} {id : Nat} {x : Int × Int} {y : Int} (h : sl[id]? = some (c2 x)) : H.wrs (hL sl) (.hp id 2 0) [.int .i64 y] = some (hL (sl.set id (c2 (y, x.2)))) := by
  rw [wrs_own (g := 2) h rfl (by simp)]; rfl
theorem wr1_c2 {sl : List Slot} {id : Nat} {x : Int × Int} {y : Int} (h : sl[id]? = some (c2 x)) : H.wrs (hL sl) (.hp id 2 1) [.int .i64 y] = some (hL (sl.set id (c2 (x.1, y)))) := by
  rw [wrs_own (g := 2) h rfl (by simp)]; rfl
theorem total_ok {xs : List (Int × Int)} (hl : xs.length ≤ 8) (h : ∀ x ∈ xs, isPlain x = true) : mix_totalP xs = some (sumL xs) := by
  unfold mix_totalP mix_total
  simp -implicitDefEqProofs only [hL_empty, hL_new, hL_next, List.length_nil, List.nil_append, List.length_cons, Nat.zero_add, List.cons_append]
  have hloop : iter FUEL (mix_total.loop1 (rowSV false [.int .i64, .int .i64] xs) (hL [c2 (0, 0)])) (0, hL [c2 (0, 0), c2 (0, 0)]) = some (.ex0 (), hL (slotsT xs xs.length)) := by
    refine (iter_from (f := mix_total.loop1 (rowSV false [.int .i64, .int .i64] xs) (hL [c2 (0, 0)])) (fun i => ((i : Int), hL (slotsT xs i))) rfl xs.length FUEL (fun i hi => ?_) ?_ (fuel_gt (by omega)))
    · have hget := List.getElem?_eq_getElem hi
      have hb := sumL_bound (xs := xs.take i) (fun x hx => h x (List.mem_of_mem_take hx))
      have hx := isPlain_iff.1 (h _ (List.getElem_mem hi))
      rw [List.length_take, Nat.min_eq_left (by omega)] at hb
      generalize hxi : xs[i] = x at *
      have hlen : (slotsT xs i).length = i + 2 := by simp [slotsT]; omega
      have hrow : (slotsT xs i ++ [c2 x])[(slotsT xs i).length]? = some (c2 x) := by simp
      have htot : (slotsT xs i ++ [c2 x])[1]? = some (c2 (sumL (xs.take i))) := rfl
      have r1 := rd_c2 hrow
      have t1 := rd_c2 htot
      have nw := new_c2 (sl := slotsT xs i) (x := x)
      have w1 := wr0_c2 (y := (sumL (xs.take i)).1 + x.1) htot
      have htot2 : ((slotsT xs i ++ [c2 x]).set 1 (c2 ((sumL (xs.take i)).1 + x.1, (sumL (xs.take i)).2)))[1]? = some (c2 ((sumL (xs.take i)).1 + x.1, (sumL (xs.take i)).2)) := rfl
      have w2 := wr1_c2 (y := (sumL (xs.take i)).2 + x.2) htot2
      rw [List.set_set, slotsT_succ hget] at w2
      have hg1 : 0 ≤ (i : Int) ∧ (i : Int) < (xs.length : Int) := by omega
      unfold mix_total.loop1
      simp -implicitDefEqProofs only [Int.toNat_natCast, rowSV_len, reserve0, guardO_pos hg1]
      rw [decide_eq_true hg1.2, cond_true, rds_rowF (ls := j2) (w := 2) rfl (by omega) rfl, hget]
      simp -implicitDefEqProofs only [Option.bind_some, hL_new, hL_next, List.length_cons, List.length_nil, Nat.zero_add]
      rw [nw]
      simp -implicitDefEqProofs only [Option.bind_some, r1.1, r1.2, t1.1, t1.2]
      rw [i64_in _ (by omega), i64_in _ (by omega), w1]
      simp -implicitDefEqProofs only [Option.bind_some]
      rw [w2]
      simp -implicitDefEqProofs only [Option.bind_some]
      rw [guardO_pos (p := apartA _ _ = true) (by rw [hlen]; rfl), i64_succ (by omega)]
    · unfold mix_total.loop1
      simp -implicitDefEqProofs only [rowSV_len]
      rw [decide_eq_false (by omega), cond_false]
  simp only [c2] at hloop
  rw [hloop]
  have e0 : (slotsT xs xs.length)[0]? = some (c2 (0, 0)) := rfl
  have e1 : (slotsT xs xs.length)[1]? = some (c2 (sumL xs)) := by rw [slotsT, List.take_length]; rfl
  have w0 := wrs_c2 (y := sumL xs) e0
  have e2 : ((slotsT xs xs.length).set 0 (c2 (sumL xs)))[0]? = some (c2 (sumL xs)) := rfl
  simp -implicitDefEqProofs only [Option.bind_some, (rd_c2 e1).1, (rd_c2 e1).2]
  rw [w0]
  simp -implicitDefEqProofs only [Option.bind_some]
  rw [rds_c2 e2]
  simp -implicitDefEqProofs only [evs, reduceIte, rdRes, rdTT, rdTy, rdLT, Res.un, TT.un, Ty.un, LT.un, Leaf.un, Leaf.plain, LT.plain]
def sumOf (xs : List (Int × Int)) : (Int × Int) × Int :=
  if 8 < xs.length then ((0, 0), 8) else if xs.any (fun x => !isPlain x) = true then ((0, 0), 1) else if isPlain (sumL xs) = true then (sumL xs, 0) else ((0, 0), 15)
theorem Sum_ok (xs : List (Int × Int)) (hl : xs.length < 2 ^ 63) : mix_SumP xs = some (sumOf xs) := by
  unfold mix_SumP mix_Sum sumOf
  simp -implicitDefEqProofs only [evs, reduceIte, rdRes, rdTT, rdTy, rdLT, Res.un, TT.un, Ty.un, LT.un, Leaf.un, Leaf.plain, LT.plain, hL_empty, hL_new, hL_next, List.length_nil, List.nil_append, List.length_cons, Nat.zero_add, List.cons_append]
  have e0 : [c2 (0, 0)][0]? = some (c2 (0, 0)) := rfl
  have w0 := wrs_c2 (y := (0, 0)) e0
  have r0 := rds_c2 e0
  simp only [List.set_cons_zero, c2] at w0 r0
  by_cases h8 : 8 < xs.length
  · rw [if_pos h8, decide_eq_true (show (8 : Int) < (xs.length : Int) by omega)]
    simp -implicitDefEqProofs only [evs, reduceIte, rdRes, rdTT, rdTy, rdLT, Res.un, TT.un, Ty.un, LT.un, Leaf.un, Leaf.plain, LT.plain]
    rw [w0]
    simp -implicitDefEqProofs only [evs, reduceIte, rdRes, rdTT, rdTy, rdLT, Res.un, TT.un, Ty.un, LT.un, Leaf.un, Leaf.plain, LT.plain]
    rw [r0]
    simp -implicitDefEqProofs only [evs, reduceIte, rdRes, rdTT, rdTy, rdLT, Res.un, TT.un, Ty.un, LT.un, Leaf.un, Leaf.plain, LT.plain]
  · rw [if_neg h8, decide_eq_false (show ¬ (8 : Int) < (xs.length : Int) by omega)]
    simp -implicitDefEqProofs only [evs, reduceIte, rdRes, rdTT, rdTy, rdLT, Res.un, TT.un, Ty.un, LT.un, Leaf.un, Leaf.plain, LT.plain]
    rw [ContainsFunc_liq (fun x => !isPlain x) hl (fun x hx R k => by
      obtain ⟨a, v⟩ := x
      show (mix_Sum_1P (a, v)).bind (fun r => k ((Res.one (.leaf .bool)).lo true r) _) = _
      rw [sum1_ok]; rfl)]
    simp -implicitDefEqProofs only [evs, reduceIte, rdRes, rdTT, rdTy, rdLT, Res.un, TT.un, Ty.un, LT.un, Leaf.un, Leaf.plain, LT.plain]
    cases hany : xs.any (fun x => !isPlain x) with
    | true =>
      simp -implicitDefEqProofs only [evs, reduceIte, rdRes, rdTT, rdTy, rdLT, Res.un, TT.un, Ty.un, LT.un, Leaf.un, Leaf.plain, LT.plain]
      rw [w0]
      simp -implicitDefEqProofs only [evs, reduceIte, rdRes, rdTT, rdTy, rdLT, Res.un, TT.un, Ty.un, LT.un, Leaf.un, Leaf.plain, LT.plain]
      rw [r0]
      simp -implicitDefEqProofs only [evs, reduceIte, rdRes, rdTT, rdTy, rdLT, Res.un, TT.un, Ty.un, LT.un, Leaf.un, Leaf.plain, LT.plain]
    | false =>
      have hp : ∀ x ∈ xs, isPlain x = true := fun x hx => by
        have := List.any_eq_false.1 hany x hx
        simpa using this
      simp -implicitDefEqProofs only [evs, reduceIte, rdRes, rdTT, rdTy, rdLT, Res.un, TT.un, Ty.un, LT.un, Leaf.un, Leaf.plain, LT.plain, Bool.false_eq_true]
      rw [total_ok (by omega) hp]
      generalize sumL xs = s
      obtain ⟨s1, s2⟩ := s
      simp -implicitDefEqProofs only [evs, reduceIte, rdRes, rdTT, rdTy, rdLT, Res.un, TT.un, Ty.un, LT.un, Leaf.un, Leaf.plain, LT.plain, evh, List.replicate, splice, LT.pack, Leaf.pack, Nat.reduceAdd, Nat.reduceSub, Nat.reduceLeDiff, Nat.reduceLT, Nat.reduceEqDiff, LT.lo, Leaf.lo]
      rw [plain_ok]
      simp -implicitDefEqProofs only [evs, reduceIte, rdRes, rdTT, rdTy, rdLT, Res.un, TT.un, Ty.un, LT.un, Leaf.un, Leaf.plain, LT.plain, evh, List.replicate, splice, LT.pack, Leaf.pack, Nat.reduceAdd, Nat.reduceSub, Nat.reduceLeDiff, Nat.reduceLT, Nat.reduceEqDiff, LT.lo, Leaf.lo]
      cases isPlain (s1, s2) with
      | true => simp -implicitDefEqProofs only [evs, reduceIte, rdRes, rdTT, rdTy, rdLT, Res.un, TT.un, Ty.un, LT.un, Leaf.un, Leaf.plain, LT.plain, evh, List.replicate, splice, LT.pack, Leaf.pack, Nat.reduceAdd, Nat.reduceSub, Nat.reduceLeDiff, Nat.reduceLT, Nat.reduceEqDiff, LT.lo, Leaf.lo]
      | false => simp -implicitDefEqProofs only [evs, reduceIte, rdRes, rdTT, rdTy, rdLT, Res.un, TT.un, Ty.un, LT.un, Leaf.un, Leaf.plain, LT.plain, evh, List.replicate, splice, LT.pack, Leaf.pack, Nat.reduceAdd, Nat.reduceSub, Nat.reduceLeDiff, Nat.reduceLT, Nat.reduceEqDiff, LT.lo, Leaf.lo]; rfl
end Go.Proofs.Ytbcpdecgfdlaaaa
/- What Plain, Plus, Minus and Take of the reference of package mix compute. Conditions: those of each law. -/
namespace Go.Proofs.Ytbcpdecgfdlaaaa
open Go Go.Proofs.Ytbcpdecgfdlaaaa.Ev
set_option linter.unusedVariables false
set_option linter.unusedSimpArgs false
set_option maxRecDepth 100000
set_option maxHeartbeats 4000000
end Go.Proofs.Ytbcpdecgfdlaaaa
/- What lot.Check and that of the reference compute. Conditions: those of each law. -/
namespace Go.Proofs.Ytbcpdecgfdlaaaa
open Go Go.Proofs.Ytbcpdecgfdlaaaa.Ev
set_option linter.unusedVariables false
set_option linter.unusedSimpArgs false
set_option maxRecDepth 100000
set_option maxHeartbeats 4000000
/-- A lot: its number, its alcohol, its mass, its shares. -/
abbrev LotT := Int × Int × Int × List (Int × Int)
abbrev jL : List Leaf := [.int .i64, .int .i64, .int .i64, .row [.int .i64, .int .i64]]
abbrev lotSV (f : Bool) (x : LotT) : Int × Int × Int × SV := (x.1, x.2.1, x.2.2.1, rowSV f j2 x.2.2.2)
theorem rd_lot {f : Bool} {h : H} {l : List LotT} {i : Nat} {x : LotT} (hx : l[i]? = some x) : rdT (.agg [.int .i64, .int .i64, .int .i64, .slice]) h ((rowSV f jL l).a.add (i * 4)) = some (lotSV f x) := by
  rw [rds_row (ls := jL) (w := 4) rfl rfl (by omega), hx]
  rfl
theorem rd_lot0 {f : Bool} {h : H} {l : List LotT} {i : Nat} {x : LotT} (hx : l[i]? = some x) : rdT (.leaf (.int .i64)) h (((rowSV f jL l).a.add (i * 4)).add 0) = some x.1 := by
  rw [add_add, rd_row (ls := jL) (w := 4) rfl (by omega), hx]; rfl
theorem rd_lot3 {f : Bool} {h : H} {l : List LotT} {i : Nat} {x : LotT} (hx : l[i]? = some x) : rdT (.leaf .slice) h (((rowSV f jL l).a.add (i * 4)).add 3) = some (rowSV f j2 x.2.2.2) := by
  rw [add_add, rd_row (ls := jL) (w := 4) rfl (by omega), hx]; rfl
theorem nn_lot {f : Bool} {l : List LotT} {i : Nat} (hi : i < l.length) : V.nn ((rowSV f jL l).a.add (i * 4)) = true := nn_row (by omega) (by simp)
def atL (l : List LotT) (i : Nat) : LotT := l[i]?.getD (0, 0, 0, [])
theorem atL_some {l : List LotT} {i : Nat} (h : i < l.length) : l[i]? = some (atL l i) := by
  unfold atL
  rw [List.getElem?_eq_getElem h]
  rfl
theorem atL_mem {l : List LotT} {i : Nat} (h : i < l.length) : atL l i ∈ l := List.mem_of_getElem? (atL_some h)
abbrev cL (x : Int × Int × Int × SV) : Slot := .own [.int .i64 x.1, .int .i64 x.2.1, .int .i64 x.2.2.1, .slice x.2.2.2.a x.2.2.2.len x.2.2.2.cap x.2.2.2.tail] 4
theorem new_cL {sl : List Slot} {x : Int × Int × Int × SV} : H.wrs (hL (sl ++ [cL (0, 0, 0, ⟨.nil, 0, 0, false⟩)])) (.hp sl.length 4 0) [.int .i64 x.1, .int .i64 x.2.1, .int .i64 x.2.2.1, .slice x.2.2.2.a x.2.2.2.len x.2.2.2.cap x.2.2.2.tail] = some (hL (sl ++ [cL x])) := by
  rw [wrs_own (g := 4) (cs := [V.int .i64 0, V.int .i64 0, V.int .i64 0, V.slice .nil 0 0 false]) (e := 4) (by simp) rfl (by simp)]
  simp [splice]
theorem wrs_cL {sl : List Slot} {id : Nat} {x y : Int × Int × Int × SV} (h : sl[id]? = some (cL x)) : H.wrs (hL sl) (.hp id 4 0) [.int .i64 y.1, .int .i64 y.2.1, .int .i64 y.2.2.1, .slice y.2.2.2.a y.2.2.2.len y.2.2.2.cap y.2.2.2.tail] = some (hL (sl.set id (cL y))) := by
  rw [wrs_own (g := 4) h rfl (by simp)]; rfl
theorem rds_cL {sl : List Slot} {id : Nat} {x : Int × Int × Int × SV} (h : sl[id]? = some (cL x)) : rdT (.agg [.int .i64, .int .i64, .int .i64, .slice]) (hL sl) (.hp id 4 0) = some x := by
  rw [rds_hp (by simp), hL_m, h]; rfl
theorem rdl_cL {sl : List Slot} {id : Nat} {x : Int × Int × Int × SV} (h : sl[id]? = some (cL x)) : rdT (.agg [.int .i64, .int .i64]) (hL sl) (.hp id 4 1) = some (x.2.1, x.2.2.1) := by
  rw [rds_hp (by simp), hL_m, h]; rfl
theorem rd_cL {sl : List Slot} {id : Nat} {x : Int × Int × Int × SV} (h : sl[id]? = some (cL x)) : rdT (.leaf (.int .i64)) (hL sl) (.hp id 4 0) = some x.1 ∧ rdT (.leaf (.int .i64)) (hL sl) (.hp id 4 1) = some x.2.1 ∧ rdT (.leaf (.int .i64)) (hL sl) (.hp id 4 2) = some x.2.2.1 ∧ rdT (.leaf .slice) (hL sl) (.hp id 4 3) = some x.2.2.2 := by
  refine ⟨?_, ?_, ?_, ?_⟩ <;> (rw [rd_own (g := 4) h rfl]; rfl)
theorem rdRow_a2 {f : Bool} {h : H} {xs : List (Int × Int)} : rdRow true h [.int .i64, .int .i64] ⟨(rowSV f [.int .i64, .int .i64] xs).a, xs.length, xs.length, true⟩ = some xs := rdRow_args (f := f) rfl
theorem rdRow_one2 {t : Bool} {h : H} {a v : Int} : rdRow true h [.int .i64, .int .i64] ⟨.lp true [.int .i64 a, .int .i64 v] 0, 1, 1, t⟩ = some [(a, v)] := rdRow_res (xs := ([(a, v)] : List (LT j2))) rfl
/-- The fault of the shares of a lot. -/
def lshares (xs : List (Int × Int)) (a : Int) : Int := if 32 < xs.length then 12 else if firstF (sfault xs) xs.length = 0 then (if sumA xs = a then 0 else 14) else 10
theorem okS_and {x1 x2 : Int} {h : H} {E : Option (Bool × H)} : (bif !(decide (x1 < 1)) then (bif !(decide ((1073741824 : Int) < x1)) then (bif !(decide (x2 < 1)) then (bif !(decide ((10737418240000 : Int) < x2)) then E else some (true, h)) else some (true, h)) else some (true, h)) else some (true, h) : Option (Bool × H)) = if okS (x1, x2) = true then E else some (true, h) := by
  unfold okS
  by_cases h1 : x1 < 1
  · rw [decide_eq_true h1, decide_eq_false (p := _ ∧ _) (by simp only; omega)]; rfl
  · rw [decide_eq_false h1]
    by_cases h2 : (1073741824 : Int) < x1
    · rw [decide_eq_true h2, decide_eq_false (p := _ ∧ _) (by simp only; omega)]; rfl
    · rw [decide_eq_false h2]
      by_cases h3 : x2 < 1
      · rw [decide_eq_true h3, decide_eq_false (p := _ ∧ _) (by simp only; omega)]; rfl
      · rw [decide_eq_false h3]
        by_cases h4 : (10737418240000 : Int) < x2
        · rw [decide_eq_true h4, decide_eq_false (p := _ ∧ _) (by simp only; omega)]; rfl
        · rw [decide_eq_false h4, decide_eq_true (p := _ ∧ _) (by simp only; omega)]; rfl
theorem lshares_step {xs : List (Int × Int)} {L : Slot} {h : H} {y : Int × Int × Int} {i : Nat} (h0 : h.next = 0) (hL0 : L = cL (y.1, y.2.1, y.2.2, rowSV false j2 xs)) (hi : i < xs.length) (h32 : xs.length ≤ 32) (hp : ∀ j, j < i → sfault xs j = 0) :
    lot_shares.loop1 h (rowSV false j2 xs) ((sumA (xs.take i), (i : Int)), hL (L :: (xs.take i).map c2)) = some (if sfault xs i = 0 then .more ((sumA (xs.take (i + 1)), ((i + 1 : Nat) : Int)), hL (L :: (xs.take (i + 1)).map c2)) else .done (.ret 10, hL (L :: (xs.take (i + 1)).map c2))) := by
  have hget := at2_some hi
  have hsl : (L :: (xs.take i).map c2) ++ [c2 (at2 xs i)] = L :: (xs.take (i + 1)).map c2 := by
    obtain ⟨h1, he⟩ := List.getElem?_eq_some_iff.1 hget
    rw [← List.take_append_getElem h1, he, List.map_append]
    rfl
  have hrow : ((L :: (xs.take i).map c2) ++ [c2 (at2 xs i)])[(L :: (xs.take i).map c2).length]? = some (c2 (at2 xs i)) := by simp
  have r1 := rd_c2 hrow
  have nw := new_c2 (sl := L :: (xs.take i).map c2) (x := at2 xs i)
  have hb := sumA_bound (xs.take i) (take_ok (by omega) hp)
  rw [List.length_take, Nat.min_eq_left (by omega)] at hb
  have hst := sumA_take hi
  have hg1 : 0 ≤ (i : Int) ∧ (i : Int) < (xs.length : Int) := by omega
  have r0 : rdT (.leaf .slice) (hL ((L :: (xs.take i).map c2) ++ [c2 (at2 xs i)])) (.hp 0 4 3) = some (rowSV false j2 xs) := (rd_cL (x := (y.1, y.2.1, y.2.2, rowSV false j2 xs)) (by rw [hL0]; rfl)).2.2.2
  unfold lot_shares.loop1
  simp -implicitDefEqProofs only [Int.toNat_natCast, rowSV_len, guardO_pos hg1, reserve0, h0]
  rw [decide_eq_true hg1.2, cond_true, rds_rowF (ls := j2) (w := 2) rfl (by omega) rfl, hget]
  simp -implicitDefEqProofs only [Option.bind_some, hL_new, hL_next]
  rw [nw]
  simp -implicitDefEqProofs only [Option.bind_some, r1.1, r1.2]
  rw [okS_and]
  unfold sfault
  cases hok : okS (at2 xs i) with
  | false =>
    simp -implicitDefEqProofs only [evs, reduceIte, rdRes, rdTT, rdTy, rdLT, Res.un, TT.un, Ty.un, LT.un, Leaf.un, Leaf.plain, LT.plain, Bool.false_eq_true]
    rw [hsl, if_neg (by simp)]
  | true =>
    have hok' := okS_iff.1 hok
    simp -implicitDefEqProofs only [evs, reduceIte, rdRes, rdTT, rdTy, rdLT, Res.un, TT.un, Ty.un, LT.un, Leaf.un, Leaf.plain, LT.plain, eq_self]
    cases i with
    | zero =>
      rw [decide_eq_false (show ¬ (0 : Int) < ((0 : Nat) : Int) by omega)]
      simp -implicitDefEqProofs only [evs, reduceIte, rdRes, rdTT, rdTy, rdLT, Res.un, TT.un, Ty.un, LT.un, Leaf.un, Leaf.plain, LT.plain, Bool.false_eq_true]
      rw [r1.2]
      simp -implicitDefEqProofs only [evs, reduceIte, rdRes, rdTT, rdTy, rdLT, Res.un, TT.un, Ty.un, LT.un, Leaf.un, Leaf.plain, LT.plain]
      rw [if_neg (show ¬ ((0 : Nat) < 0 ∧ _) by omega), if_pos rfl, hsl, i64_in _ (by omega), i64_succ (by omega), hst]
    | succ j =>
      have hj : ((j + 1 : Nat) : Int) - 1 = ((j : Nat) : Int) := by omega
      have hg2 : 0 ≤ (j : Int) ∧ (j : Int) < (xs.length : Int) := by omega
      rw [decide_eq_true (show (0 : Int) < ((j + 1 : Nat) : Int) by omega), hj, i64_in (j : Int) (by omega)]
      simp -implicitDefEqProofs only [evs, reduceIte, rdRes, rdTT, rdTy, rdLT, Res.un, TT.un, Ty.un, LT.un, Leaf.un, Leaf.plain, LT.plain, Int.toNat_natCast, r0]
      rw [guardO_pos hg2, guardO_pos (nn_at2 (by omega)), (rd_at2 (by omega)).1]
      simp -implicitDefEqProofs only [evs, reduceIte, rdRes, rdTT, rdTy, rdLT, Res.un, TT.un, Ty.un, LT.un, Leaf.un, Leaf.plain, LT.plain]
      rw [Nat.add_sub_cancel]
      by_cases hle : (at2 xs (j + 1)).1 ≤ (at2 xs j).1
      · rw [decide_eq_true hle]
        simp -implicitDefEqProofs only [evs, reduceIte, rdRes, rdTT, rdTy, rdLT, Res.un, TT.un, Ty.un, LT.un, Leaf.un, Leaf.plain, LT.plain]
        rw [if_pos (show (0 < j + 1 ∧ (at2 xs (j + 1)).1 ≤ (at2 xs j).1) from ⟨by omega, hle⟩), if_neg (by omega), hsl]
      · rw [decide_eq_false hle]
        simp -implicitDefEqProofs only [evs, reduceIte, rdRes, rdTT, rdTy, rdLT, Res.un, TT.un, Ty.un, LT.un, Leaf.un, Leaf.plain, LT.plain, Bool.false_eq_true]
        rw [r1.2]
        simp -implicitDefEqProofs only [evs, reduceIte, rdRes, rdTT, rdTy, rdLT, Res.un, TT.un, Ty.un, LT.un, Leaf.un, Leaf.plain, LT.plain]
        rw [if_neg (show ¬ (0 < j + 1 ∧ (at2 xs (j + 1)).1 ≤ (at2 xs j).1) from fun h => hle h.2), if_pos rfl, hsl, i64_in _ (by omega), i64_succ (by omega), hst]
theorem Lshares_ok (y : LotT) : lot_sharesP y = some (lshares y.2.2.2 y.2.1) := by
  obtain ⟨d, a, m, xs⟩ := y
  unfold lot_sharesP lot_shares lshares
  simp -implicitDefEqProofs only [evs, reduceIte, rdRes, rdTT, rdTy, rdLT, Res.un, TT.un, Ty.un, LT.un, Leaf.un, Leaf.plain, LT.plain, hL_empty, hL_new, hL_next, List.nil_append, List.length_nil]
  have e0 : [cL (d, a, m, rowSV false j2 xs)][0]? = some (cL (d, a, m, rowSV false j2 xs)) := rfl
  have r0 := rd_cL e0
  simp only [cL, rowSV_len, rowSV_cap, rowSV_tail] at r0
  rw [r0.2.2.2]
  simp -implicitDefEqProofs only [evs, reduceIte, rdRes, rdTT, rdTy, rdLT, Res.un, TT.un, Ty.un, LT.un, Leaf.un, Leaf.plain, LT.plain]
  by_cases h32 : 32 < xs.length
  · rw [if_pos h32, decide_eq_true (show (32 : Int) < (xs.length : Int) by omega)]
    simp -implicitDefEqProofs only [evs, reduceIte, rdRes, rdTT, rdTy, rdLT, Res.un, TT.un, Ty.un, LT.un, Leaf.un, Leaf.plain, LT.plain]
  · rw [if_neg h32, decide_eq_false (show ¬ (32 : Int) < (xs.length : Int) by omega)]
    simp -implicitDefEqProofs only [evs, reduceIte, rdRes, rdTT, rdTy, rdLT, Res.un, TT.un, Ty.un, LT.un, Leaf.un, Leaf.plain, LT.plain]
    rcases first_cases (sfault xs) xs.length with ⟨h1, h2⟩ | ⟨n, h1, h2, h3, h4⟩
    · rw [h2, if_pos rfl]
      have hloop := iter_from (s0 := (((0 : Int), (0 : Int)), hL [cL (d, a, m, rowSV false j2 xs)])) (f := lot_shares.loop1 (hL []) (rowSV false j2 xs)) (x := (.ex0 (sumA xs), hL (cL (d, a, m, rowSV false j2 xs) :: xs.map c2))) (fun i => ((sumA (xs.take i), (i : Int)), hL (cL (d, a, m, rowSV false j2 xs) :: (xs.take i).map c2))) rfl xs.length FUEL (fun i hi => by
        rw [lshares_step (y := (d, a, m)) rfl rfl hi (by omega) (fun j hj => h1 j (by omega)), if_pos (h1 i hi)]) (by
        unfold lot_shares.loop1
        simp -implicitDefEqProofs only [rowSV_len]
        rw [decide_eq_false (by omega), cond_false, List.take_length]) (fuel_gt (by omega))
      simp only [cL, rowSV_len, rowSV_cap, rowSV_tail] at hloop
      rw [hloop]
      simp -implicitDefEqProofs only [evs, reduceIte, rdRes, rdTT, rdTy, rdLT, Res.un, TT.un, Ty.un, LT.un, Leaf.un, Leaf.plain, LT.plain]
      have r1 := rd_cL (sl := cL (d, a, m, rowSV false j2 xs) :: xs.map c2) (id := 0) (x := (d, a, m, rowSV false j2 xs)) rfl
      simp only [cL, rowSV_len, rowSV_cap, rowSV_tail] at r1
      rw [r1.2.1]
      simp -implicitDefEqProofs only [evs, reduceIte, rdRes, rdTT, rdTy, rdLT, Res.un, TT.un, Ty.un, LT.un, Leaf.un, Leaf.plain, LT.plain]
      by_cases hs : sumA xs = a
      · rw [decide_eq_true hs, if_pos hs]; simp -implicitDefEqProofs only [evs, reduceIte, rdRes, rdTT, rdTy, rdLT, Res.un, TT.un, Ty.un, LT.un, Leaf.un, Leaf.plain, LT.plain]
      · rw [decide_eq_false hs, if_neg hs]; simp -implicitDefEqProofs only [evs, reduceIte, rdRes, rdTT, rdTy, rdLT, Res.un, TT.un, Ty.un, LT.un, Leaf.un, Leaf.plain, LT.plain]
    · rw [h4, if_neg h2]
      have hloop := iter_from (s0 := (((0 : Int), (0 : Int)), hL [cL (d, a, m, rowSV false j2 xs)])) (f := lot_shares.loop1 (hL []) (rowSV false j2 xs)) (x := (.ret 10, hL (cL (d, a, m, rowSV false j2 xs) :: (xs.take (n + 1)).map c2))) (fun i => ((sumA (xs.take i), (i : Int)), hL (cL (d, a, m, rowSV false j2 xs) :: (xs.take i).map c2))) rfl n FUEL (fun i hi => by
        rw [lshares_step (y := (d, a, m)) rfl rfl (by omega) (by omega) (fun j hj => h3 j (by omega)), if_pos (h3 i hi)]) (by
        rw [lshares_step (y := (d, a, m)) rfl rfl h1 (by omega) h3, if_neg h2]) (fuel_gt (by omega))
      simp only [cL, rowSV_len, rowSV_cap, rowSV_tail] at hloop
      rw [hloop]
      simp -implicitDefEqProofs only [evs, reduceIte, rdRes, rdTT, rdTy, rdLT, Res.un, TT.un, Ty.un, LT.un, Leaf.un, Leaf.plain, LT.plain]
theorem lplain_ok (a v : Int) : lot_plainP (a, v) = some (isPlain (a, v)) := by
  unfold lot_plainP lot_plain
  simp -implicitDefEqProofs only [evs, reduceIte, rdRes, rdTT, rdTy, rdLT, Res.un, TT.un, Ty.un, LT.un, Leaf.un, Leaf.plain, LT.plain, evh, List.replicate, splice, LT.pack, Leaf.pack, Nat.reduceAdd, Nat.reduceSub, Nat.reduceLeDiff, Nat.reduceLT, Nat.reduceEqDiff, LT.lo, Leaf.lo, rdRow_one2]
  rw [Sum_ok _ (by simp)]
  have hs : sumL [(a, v)] = (a, v) := by simp [sumL]
  unfold sumOf
  rw [hs]
  simp -implicitDefEqProofs only [evs, reduceIte, rdRes, rdTT, rdTy, rdLT, Res.un, TT.un, Ty.un, LT.un, Leaf.un, Leaf.plain, LT.plain, evh, List.replicate, splice, LT.pack, Leaf.pack, Nat.reduceAdd, Nat.reduceSub, Nat.reduceLeDiff, Nat.reduceLT, Nat.reduceEqDiff, LT.lo, Leaf.lo, List.any_cons, List.any_nil]
  cases h : isPlain (a, v) with
  | false => rfl
  | true => rfl
/-- The fault of a lot alone, but for its number. -/
def oneOf (x : LotT) : Int := if isPlain (x.2.1, x.2.2.1) = true ∧ x.2.2.1 ≠ 0 then lshares x.2.2.2 x.2.1 else 1
def okId (n : Int) : Bool := decide (1 ≤ n ∧ n ≤ 1073741824)
theorem okId_iff {n : Int} : okId n = true ↔ 1 ≤ n ∧ n ≤ 1073741824 := by simp [okId]
def lfault (l : List LotT) (i : Nat) : Int := if okId (atL l i).1 = true then (if 0 < i ∧ (atL l i).1 ≤ (atL l (i - 1)).1 then 5 else oneOf (atL l i)) else 2
def lotErr (l : List LotT) : Int := if 32 < l.length then 8 else firstF (lfault l) l.length
end Go.Proofs.Ytbcpdecgfdlaaaa
/- lot.Check and that of the reference, as far as errors go. Conditions: those of each law. -/
namespace Go.Proofs.Ytbcpdecgfdlaaaa
open Go Go.Proofs.Ytbcpdecgfdlaaaa.Ev
set_option linter.unusedVariables false
set_option linter.unusedSimpArgs false
set_option maxRecDepth 100000
set_option maxHeartbeats 4000000
theorem id_code {n : Int} {h : H} : (bif !(decide (n < 1)) then some ((decide ((1073741824 : Int) < n)), h) else some (true, h) : Option (Bool × H)) = some (!okId n, h) := by
  unfold okId
  by_cases h1 : n < 1
  · rw [decide_eq_true h1, decide_eq_false (p := _ ∧ _) (by omega)]; rfl
  · rw [decide_eq_false h1]
    by_cases h2 : (1073741824 : Int) < n
    · rw [decide_eq_true h2, decide_eq_false (p := _ ∧ _) (by omega)]; rfl
    · rw [decide_eq_false h2, decide_eq_true (p := _ ∧ _) (by omega)]; rfl
theorem Fault_ok (l : List LotT) {i : Nat} (hi : i < l.length) (hl : l.length < 2 ^ 62) : lot_faultP l (i : Int) = some (lfault l i) := by
  have hg1 : 0 ≤ (i : Int) ∧ (i : Int) < (l.length : Int) := by omega
  have hx := atL_some hi
  have hprev : 0 < i → l[i - 1]? = some (atL l (i - 1)) := fun h => atL_some (by omega)
  unfold lot_faultP lot_fault lfault
  generalize atL l i = x at *
  obtain ⟨d, a, m, xs⟩ := x
  simp -implicitDefEqProofs only [evs, reduceIte, rdRes, rdTT, rdTy, rdLT, Res.un, TT.un, Ty.un, LT.un, Leaf.un, Leaf.plain, LT.plain, Int.toNat_natCast, guardO_pos hg1]
  rw [rd_lot hx]
  simp -implicitDefEqProofs only [evs, reduceIte, rdRes, rdTT, rdTy, rdLT, Res.un, TT.un, Ty.un, LT.un, Leaf.un, Leaf.plain, LT.plain, hL_empty, hL_new, hL_next, List.nil_append, List.length_nil]
  have nw := new_cL (sl := []) (x := (d, a, m, rowSV false j2 xs))
  have e0 : ([] ++ [cL (d, a, m, rowSV false j2 xs)])[0]? = some (cL (d, a, m, rowSV false j2 xs)) := rfl
  have r0 := rd_cL e0
  have r1 := rdl_cL e0
  have r2 := rds_cL e0
  simp only [cL, rowSV_len, rowSV_cap, rowSV_tail, List.nil_append, List.length_nil] at nw r0 r1 r2
  rw [nw]
  simp -implicitDefEqProofs only [evs, reduceIte, rdRes, rdTT, rdTy, rdLT, Res.un, TT.un, Ty.un, LT.un, Leaf.un, Leaf.plain, LT.plain]
  rw [r0.1]
  simp -implicitDefEqProofs only [evs, reduceIte, rdRes, rdTT, rdTy, rdLT, Res.un, TT.un, Ty.un, LT.un, Leaf.un, Leaf.plain, LT.plain]
  rw [id_code]
  simp -implicitDefEqProofs only [evs, reduceIte, rdRes, rdTT, rdTy, rdLT, Res.un, TT.un, Ty.un, LT.un, Leaf.un, Leaf.plain, LT.plain]
  cases hid : okId d with
  | false =>
    simp -implicitDefEqProofs only [evs, reduceIte, rdRes, rdTT, rdTy, rdLT, Res.un, TT.un, Ty.un, LT.un, Leaf.un, Leaf.plain, LT.plain, Bool.false_eq_true]
  | true =>
    simp -implicitDefEqProofs only [evs, reduceIte, rdRes, rdTT, rdTy, rdLT, Res.un, TT.un, Ty.un, LT.un, Leaf.un, Leaf.plain, LT.plain, eq_self]
    have rest : ((((rdT (.agg [.int .i64, .int .i64]) (hL [cL (d, a, m, rowSV false j2 xs)]) (.hp 0 4 1)).bind fun (x13_0, x13_1) => ((lot_plainP (x13_0, x13_1)).bind fun r14 =>
        (bif !(!r14) then ((rdT (.leaf (.int .i64)) (hL [cL (d, a, m, rowSV false j2 xs)]) (.hp 0 4 2)).bind fun x15 => (some ((decide (x15 = 0)), (hL [cL (d, a, m, rowSV false j2 xs)])))) else (some (true, (hL [cL (d, a, m, rowSV false j2 xs)]))))))).bind fun (y16, h17) =>
        (bif y16 then (some ((1 : Int), h17)) else ((rdT (.agg [.int .i64, .int .i64, .int .i64, .slice]) h17 (.hp 0 4 0)).bind fun (x18_0, x18_1, x18_2, x18_3) => ((rdRow true h17 [.int .i64, .int .i64] x18_3).bind fun s20 =>
        ((lot_sharesP (x18_0, x18_1, x18_2, s20)).bind fun r19 => (some (r19, h17))))))) = some (oneOf (d, a, m, xs), hL [cL (d, a, m, rowSV false j2 xs)]) := by
      unfold oneOf
      simp only [cL, rowSV_len, rowSV_cap, rowSV_tail]
      rw [r1]
      simp -implicitDefEqProofs only [evs, reduceIte, rdRes, rdTT, rdTy, rdLT, Res.un, TT.un, Ty.un, LT.un, Leaf.un, Leaf.plain, LT.plain]
      rw [lplain_ok]
      simp -implicitDefEqProofs only [evs, reduceIte, rdRes, rdTT, rdTy, rdLT, Res.un, TT.un, Ty.un, LT.un, Leaf.un, Leaf.plain, LT.plain]
      cases hp : isPlain (a, m) with
      | false => simp -implicitDefEqProofs only [evs, reduceIte, rdRes, rdTT, rdTy, rdLT, Res.un, TT.un, Ty.un, LT.un, Leaf.un, Leaf.plain, LT.plain, Bool.false_eq_true, false_and]
      | true =>
        simp -implicitDefEqProofs only [evs, reduceIte, rdRes, rdTT, rdTy, rdLT, Res.un, TT.un, Ty.un, LT.un, Leaf.un, Leaf.plain, LT.plain, eq_self, true_and]
        rw [r0.2.2.1]
        simp -implicitDefEqProofs only [evs, reduceIte, rdRes, rdTT, rdTy, rdLT, Res.un, TT.un, Ty.un, LT.un, Leaf.un, Leaf.plain, LT.plain]
        by_cases hm : m = 0
        · rw [decide_eq_true hm, if_neg (fun h => h hm)]; simp -implicitDefEqProofs only [evs, reduceIte, rdRes, rdTT, rdTy, rdLT, Res.un, TT.un, Ty.un, LT.un, Leaf.un, Leaf.plain, LT.plain]
        · rw [decide_eq_false hm, if_pos hm]
          simp -implicitDefEqProofs only [evs, reduceIte, rdRes, rdTT, rdTy, rdLT, Res.un, TT.un, Ty.un, LT.un, Leaf.un, Leaf.plain, LT.plain]
          rw [r2]
          simp -implicitDefEqProofs only [evs, reduceIte, rdRes, rdTT, rdTy, rdLT, Res.un, TT.un, Ty.un, LT.un, Leaf.un, Leaf.plain, LT.plain]
          rw [Lshares_ok]
          simp -implicitDefEqProofs only [evs, reduceIte, rdRes, rdTT, rdTy, rdLT, Res.un, TT.un, Ty.un, LT.un, Leaf.un, Leaf.plain, LT.plain]
    simp only [cL, rowSV_len, rowSV_cap, rowSV_tail] at rest
    by_cases h0 : 0 < i
    · have hg2 : 0 ≤ ((i - 1 : Nat) : Int) ∧ ((i - 1 : Nat) : Int) < (l.length : Int) := by omega
      have hpr := hprev h0
      rw [decide_eq_true (show (0 : Int) < (i : Int) by omega), show (i : Int) - 1 = ((i - 1 : Nat) : Int) by omega, i64_nat (by omega)]
      simp -implicitDefEqProofs only [evs, reduceIte, rdRes, rdTT, rdTy, rdLT, Res.un, TT.un, Ty.un, LT.un, Leaf.un, Leaf.plain, LT.plain, Int.toNat_natCast, guardO_pos hg2]
      rw [guardO_pos (nn_lot (show i - 1 < l.length by omega)), rd_lot0 hpr]
      simp -implicitDefEqProofs only [evs, reduceIte, rdRes, rdTT, rdTy, rdLT, Res.un, TT.un, Ty.un, LT.un, Leaf.un, Leaf.plain, LT.plain]
      rw [r0.1]
      simp -implicitDefEqProofs only [evs, reduceIte, rdRes, rdTT, rdTy, rdLT, Res.un, TT.un, Ty.un, LT.un, Leaf.un, Leaf.plain, LT.plain]
      by_cases hle : d ≤ (atL l (i - 1)).1
      · rw [decide_eq_true hle, if_pos (show 0 < i ∧ d ≤ (atL l (i - 1)).1 from ⟨h0, hle⟩)]
        simp -implicitDefEqProofs only [evs, reduceIte, rdRes, rdTT, rdTy, rdLT, Res.un, TT.un, Ty.un, LT.un, Leaf.un, Leaf.plain, LT.plain]
      · rw [decide_eq_false hle, if_neg (show ¬ (0 < i ∧ d ≤ (atL l (i - 1)).1) from fun h => hle h.2)]
        simp -implicitDefEqProofs only [evs, reduceIte, rdRes, rdTT, rdTy, rdLT, Res.un, TT.un, Ty.un, LT.un, Leaf.un, Leaf.plain, LT.plain]
        rw [rest]
        simp -implicitDefEqProofs only [evs, reduceIte, rdRes, rdTT, rdTy, rdLT, Res.un, TT.un, Ty.un, LT.un, Leaf.un, Leaf.plain, LT.plain]
    · rw [decide_eq_false (show ¬ (0 : Int) < (i : Int) by omega), if_neg (show ¬ (0 < i ∧ d ≤ (atL l (i - 1)).1) from fun h => h0 h.1)]
      simp -implicitDefEqProofs only [evs, reduceIte, rdRes, rdTT, rdTy, rdLT, Res.un, TT.un, Ty.un, LT.un, Leaf.un, Leaf.plain, LT.plain]
      rw [rest]
      simp -implicitDefEqProofs only [evs, reduceIte, rdRes, rdTT, rdTy, rdLT, Res.un, TT.un, Ty.un, LT.un, Leaf.un, Leaf.plain, LT.plain]
theorem LCheck_ok (l : List LotT) (hl : l.length < 2 ^ 62) : ∃ j, lot_CheckP l = some (j, lotErr l) := by
  unfold lot_CheckP lot_Check lotErr
  by_cases h32 : 32 < l.length
  · rw [if_pos h32, rowSV_len, decide_eq_true (show (32 : Int) < (l.length : Int) by omega)]
    simp -implicitDefEqProofs only [evs, reduceIte, rdRes, rdTT, rdTy, rdLT, Res.un, TT.un, Ty.un, LT.un, Leaf.un, Leaf.plain, LT.plain]
    exact ⟨_, rfl⟩
  · rw [if_neg h32, rowSV_len, decide_eq_false (show ¬ (32 : Int) < (l.length : Int) by omega)]
    simp -implicitDefEqProofs only [evs, reduceIte, rdRes, rdTT, rdTy, rdLT, Res.un, TT.un, Ty.un, LT.un, Leaf.un, Leaf.plain, LT.plain]
    have step : ∀ i, i < l.length → lot_Check.loop1 (rowSV false jL l) ((i : Int), H.empty) = some (if lfault l i = 0 then .more (((i + 1 : Nat) : Int), H.empty) else .done (.ret ((i : Int), lfault l i), H.empty)) := fun i hi => by
      unfold lot_Check.loop1
      simp -implicitDefEqProofs only [evs, reduceIte, rdRes, rdTT, rdTy, rdLT, Res.un, TT.un, Ty.un, LT.un, Leaf.un, Leaf.plain, LT.plain]
      rw [decide_eq_true (show (i : Int) < (l.length : Int) by omega)]
      simp -implicitDefEqProofs only [evs, reduceIte, rdRes, rdTT, rdTy, rdLT, Res.un, TT.un, Ty.un, LT.un, Leaf.un, Leaf.plain, LT.plain]
      rw [Fault_ok l hi hl]
      simp -implicitDefEqProofs only [evs, reduceIte, rdRes, rdTT, rdTy, rdLT, Res.un, TT.un, Ty.un, LT.un, Leaf.un, Leaf.plain, LT.plain]
      by_cases hf : lfault l i = 0
      · rw [decide_eq_true hf, if_pos hf]
        simp -implicitDefEqProofs only [evs, reduceIte, rdRes, rdTT, rdTy, rdLT, Res.un, TT.un, Ty.un, LT.un, Leaf.un, Leaf.plain, LT.plain]
        rw [i64_succ (by omega)]
      · rw [decide_eq_false hf, if_neg hf]
        simp -implicitDefEqProofs only [evs, reduceIte, rdRes, rdTT, rdTy, rdLT, Res.un, TT.un, Ty.un, LT.un, Leaf.un, Leaf.plain, LT.plain]
    rcases first_cases (lfault l) l.length with ⟨h1, h2⟩ | ⟨n, h1, h2, h3, h4⟩
    · rw [h2, iter_from (s0 := ((0 : Int), H.empty)) (f := lot_Check.loop1 (rowSV false jL l)) (x := (.ex0 (), H.empty)) (fun i => ((i : Int), H.empty)) rfl l.length FUEL (fun i hi => by
        rw [step i hi, if_pos (h1 i hi)]) (by
        unfold lot_Check.loop1
        simp -implicitDefEqProofs only [rowSV_len]
        rw [decide_eq_false (by omega), cond_false]) (fuel_gt (by omega))]
      simp -implicitDefEqProofs only [evs, reduceIte, rdRes, rdTT, rdTy, rdLT, Res.un, TT.un, Ty.un, LT.un, Leaf.un, Leaf.plain, LT.plain]
      exact ⟨_, rfl⟩
    · rw [h4, iter_from (s0 := ((0 : Int), H.empty)) (f := lot_Check.loop1 (rowSV false jL l)) (x := (.ret ((n : Int), lfault l n), H.empty)) (fun i => ((i : Int), H.empty)) rfl n FUEL (fun i hi => by
        rw [step i (by omega), if_pos (h3 i hi)]) (by
        rw [step n h1, if_neg h2]) (fuel_gt (by omega))]
      simp -implicitDefEqProofs only [evs, reduceIte, rdRes, rdTT, rdTy, rdLT, Res.un, TT.un, Ty.un, LT.un, Leaf.un, Leaf.plain, LT.plain]
      exact ⟨_, rfl⟩
/-! The reference -/
theorem Sid_ok (n : Int) : share_idP n = some (okId n) := by
  unfold share_idP share_id okId
  by_cases h1 : (1 : Int) ≤ n
  · rw [decide_eq_true h1]
    simp -implicitDefEqProofs only [evs, reduceIte, rdRes, rdTT, rdTy, rdLT, Res.un, TT.un, Ty.un, LT.un, Leaf.un, Leaf.plain, LT.plain]
    by_cases h2 : n ≤ 1073741824
    · rw [decide_eq_true h2, decide_eq_true (p := _ ∧ _) (by omega)]
    · rw [decide_eq_false h2, decide_eq_false (p := _ ∧ _) (by omega)]
  · rw [decide_eq_false h1, decide_eq_false (p := _ ∧ _) (by omega)]
    simp -implicitDefEqProofs only [evs, reduceIte, rdRes, rdTT, rdTy, rdLT, Res.un, TT.un, Ty.un, LT.un, Leaf.un, Leaf.plain, LT.plain]
def rshares (xs : List (Int × Int)) : Int := if 32 < xs.length then 12 else if firstF (sfault xs) xs.length = 0 then 0 else 10
theorem rshares_bound {xs : List (Int × Int)} (h : rshares xs = 0) : xs.length ≤ 32 ∧ firstF (sfault xs) xs.length = 0 ∧ ∀ x ∈ xs, okS x = true := by
  unfold rshares at h
  by_cases h32 : 32 < xs.length
  · rw [if_pos h32] at h; cases h
  · rw [if_neg h32] at h
    by_cases hf : firstF (sfault xs) xs.length = 0
    · refine ⟨by omega, hf, fun x hx => ?_⟩
      rcases first_cases (sfault xs) xs.length with ⟨h1, h2⟩ | ⟨n, h1, h2, h3, h4⟩
      · obtain ⟨j, hj, e⟩ := List.getElem_of_mem hx
        have := sfault_ok (h1 j hj)
        have e1 := at2_some hj
        rw [List.getElem?_eq_getElem hj, e] at e1
        rw [Option.some.inj e1]
        exact this
      · rw [h4] at hf; exact absurd hf h2
    · rw [if_neg hf] at h; cases h
theorem lshares_split (xs : List (Int × Int)) (a : Int) : lshares xs a = if rshares xs = 0 then (if sumA xs = a then 0 else 14) else rshares xs := by
  unfold lshares rshares
  by_cases h32 : 32 < xs.length
  · rw [if_pos h32, if_pos h32, if_neg (by omega)]
  · rw [if_neg h32, if_neg h32]
    by_cases hf : firstF (sfault xs) xs.length = 0
    · rw [if_pos hf, if_pos hf, if_pos rfl]
    · rw [if_neg hf, if_neg hf, if_neg (by omega)]
end Go.Proofs.Ytbcpdecgfdlaaaa
/- share.Draw and that of the reference. Conditions: those of each law. -/
namespace Go.Proofs.Ytbcpdecgfdlaaaa
open Go Go.Proofs.Ytbcpdecgfdlaaaa.Ev
set_option linter.unusedVariables false
set_option linter.unusedSimpArgs false
set_option maxRecDepth 100000
set_option maxHeartbeats 4000000
/-- What is known of a right lot. -/
theorem oneOf_right {x : LotT} (h : oneOf x = 0) : isPlain (x.2.1, x.2.2.1) = true ∧ x.2.2.1 ≠ 0 ∧ shareCheck x.2.2.2 = 0 ∧ sumA x.2.2.2 = x.2.1 := by
  unfold oneOf at h
  by_cases hp : isPlain (x.2.1, x.2.2.1) = true ∧ x.2.2.1 ≠ 0
  · rw [if_pos hp, lshares_split] at h
    by_cases hr : rshares x.2.2.2 = 0
    · rw [if_pos hr] at h
      by_cases hs : sumA x.2.2.2 = x.2.1
      · refine ⟨hp.1, hp.2, ?_, hs⟩
        obtain ⟨k1, k2, k3⟩ := rshares_bound hr
        have hb := isPlain_iff.1 hp.1
        simp only at hb
        unfold shareCheck
        rw [if_neg (by omega), if_pos k2, if_neg (by omega)]
      · rw [if_neg hs] at h; cases h
    · rw [if_neg hr] at h; exact absurd h hr
  · rw [if_neg hp] at h; cases h
theorem oneOf_intro {x : LotT} (h1 : isPlain (x.2.1, x.2.2.1) = true) (h2 : x.2.2.1 ≠ 0) (h3 : shareCheck x.2.2.2 = 0) (h4 : sumA x.2.2.2 = x.2.1) : oneOf x = 0 := by
  unfold oneOf
  rw [if_pos ⟨h1, h2⟩]
  obtain ⟨k1, k2, k3, k4⟩ := shareCheck_ok h3
  unfold lshares
  rw [if_neg (by omega), if_pos, if_pos h4]
  rcases first_cases (sfault x.2.2.2) x.2.2.2.length with ⟨_, e⟩ | ⟨m, hm, hne, _⟩
  · exact e
  · exact absurd (k2 m hm) hne
theorem lotErr_one {x : LotT} : lotErr [x] = if okId x.1 = true then oneOf x else 2 := by
  have h0 : lfault [x] 0 = if okId x.1 = true then oneOf x else 2 := by
    unfold lfault
    show (if okId x.1 = true then (if 0 < 0 ∧ _ then 5 else oneOf x) else 2) = _
    rw [if_neg (show ¬ ((0 : Nat) < 0 ∧ _) by omega)]
  unfold lotErr
  rw [if_neg (by simp)]
  rw [← h0]
  rcases first_cases (lfault [x]) [x].length with ⟨h1, h2⟩ | ⟨n, h1, h2, h3, h4⟩
  · rw [h2, h1 0 (by simp)]
  · have : n = 0 := by simpa using h1
    subst this
    exact h4
theorem lotErr_right {l : List LotT} (h : lotErr l = 0) : l.length ≤ 32 ∧ ∀ i, i < l.length → lfault l i = 0 := by
  unfold lotErr at h
  by_cases h32 : 32 < l.length
  · rw [if_pos h32] at h; cases h
  · rw [if_neg h32] at h
    refine ⟨by omega, ?_⟩
    rcases first_cases (lfault l) l.length with ⟨h1, _⟩ | ⟨n, h1, h2, h3, h4⟩
    · exact h1
    · rw [h4] at h; exact absurd h h2
theorem lotErr_mem {l : List LotT} (h : lotErr l = 0) : ∀ x ∈ l, okId x.1 = true ∧ oneOf x = 0 := fun x hx => by
  obtain ⟨h1, h2⟩ := lotErr_right h
  obtain ⟨i, hi, e⟩ := List.getElem_of_mem hx
  have h3 := h2 i hi
  have e1 := atL_some hi
  rw [List.getElem?_eq_getElem hi, e] at e1
  unfold lfault at h3
  rw [← Option.some.inj e1] at h3
  by_cases hid : okId x.1 = true
  · rw [if_pos hid] at h3
    split at h3
    · cases h3
    · exact ⟨hid, h3⟩
  · rw [if_neg hid] at h3; cases h3
end Go.Proofs.Ytbcpdecgfdlaaaa
/- share.Vat and that of the reference; the law ShareLots. Conditions: none. -/
namespace Go.Proofs.Ytbcpdecgfdlaaaa
open Go Go.Proofs.Ytbcpdecgfdlaaaa.Ev
set_option linter.unusedVariables false
set_option linter.unusedSimpArgs false
set_option maxRecDepth 100000
set_option maxHeartbeats 4000000
theorem joinL_bound2 (xs ys : List (Int × Int)) (B C : Int) (hB : 0 ≤ B) (hC : 0 ≤ C) : (∀ x ∈ xs, 0 ≤ x.2 ∧ x.2 ≤ B) → (∀ x ∈ ys, 0 ≤ x.2 ∧ x.2 ≤ C) → ∀ x ∈ joinL xs ys, 0 ≤ x.2 ∧ x.2 ≤ B + C := by
  refine joinL_cases (P := fun xs ys => (∀ x ∈ xs, 0 ≤ x.2 ∧ x.2 ≤ B) → (∀ x ∈ ys, 0 ≤ x.2 ∧ x.2 ≤ C) → ∀ x ∈ joinL xs ys, 0 ≤ x.2 ∧ x.2 ≤ B + C) (fun ys h1 h2 p hp => by rw [nil_joinL] at hp; have := h2 p hp; omega) (fun xs h1 h2 p hp => by rw [joinL_nil] at hp; have := h1 p hp; omega) (fun x xs y ys h ih h1 h2 p hp => ?_) (fun x xs y ys h ih h1 h2 p hp => ?_) (fun x xs y ys h ih h1 h2 p hp => ?_) _ xs ys (Nat.le_refl _)
  · rw [joinL_lt h] at hp
    rcases List.mem_cons.1 hp with rfl | hp
    · have := h1 p (by simp); omega
    · exact ih (fun z hz => h1 z (by simp [hz])) h2 p hp
  · rw [joinL_gt h] at hp
    rcases List.mem_cons.1 hp with rfl | hp
    · have := h2 p (by simp); omega
    · exact ih h1 (fun z hz => h2 z (by simp [hz])) p hp
  · rw [joinL_eq h] at hp
    rcases List.mem_cons.1 hp with rfl | hp
    · have := h1 x (by simp); have := h2 y (by simp); simp only; omega
    · exact ih (fun z hz => h1 z (by simp [hz])) (fun z hz => h2 z (by simp [hz])) p hp
/-- All shares, joined; the sum of the liquids. -/
def joinAll (l : List LotT) : List (Int × Int) := l.foldl (fun acc x => joinL acc x.2.2.2) []
def liqs (l : List LotT) : List (Int × Int) := l.map fun x => (x.2.1, x.2.2.1)
theorem joinAll_snoc {l : List LotT} {i : Nat} (h : i < l.length) : joinAll (l.take (i + 1)) = joinL (joinAll (l.take i)) (atL l i).2.2.2 := by
  obtain ⟨hi, he⟩ := List.getElem?_eq_some_iff.1 (atL_some h)
  unfold joinAll
  rw [← List.take_append_getElem hi, he, List.foldl_append]
  rfl
theorem liqs_snoc {l : List LotT} {i : Nat} (h : i < l.length) : sumL (liqs (l.take (i + 1))) = ((sumL (liqs (l.take i))).1 + (atL l i).2.1, (sumL (liqs (l.take i))).2 + (atL l i).2.2.1) := by
  have hx : (liqs l)[i]? = some ((atL l i).2.1, (atL l i).2.2.1) := by unfold liqs; rw [List.getElem?_map, atL_some h]; rfl
  have := sumL_take hx
  unfold liqs at this ⊢
  rw [List.map_take, List.map_take, this]
/-- What holds of some right lots. -/
structure RightL (l : List LotT) : Prop where
  len : l.length ≤ 32
  all : ∀ x ∈ l, isPlain (x.2.1, x.2.2.1) = true ∧ x.2.2.1 ≠ 0 ∧ shareCheck x.2.2.2 = 0 ∧ sumA x.2.2.2 = x.2.1
theorem rightL_of {l : List LotT} (h : lotErr l = 0) : RightL l := ⟨(lotErr_right h).1, fun x hx => oneOf_right (lotErr_mem h x hx).2⟩
theorem RightL.take {l : List LotT} (h : RightL l) (i : Nat) : RightL (l.take i) := ⟨by have := h.len; rw [List.length_take]; omega, fun x hx => h.all x (List.mem_of_mem_take hx)⟩
theorem joinAll_facts {l : List LotT} (h : RightL l) : ∀ i, i ≤ l.length → SortedF (joinAll (l.take i)) ∧ (joinAll (l.take i)).length ≤ 32 * i ∧ (∀ x ∈ joinAll (l.take i), 0 ≤ x.2 ∧ x.2 ≤ i * 10737418240000) ∧ sumA (joinAll (l.take i)) = (sumL (liqs (l.take i))).1
  | 0, _ => by
    have e : joinAll (l.take 0) = [] := by simp [joinAll]
    rw [e]
    exact ⟨List.Pairwise.nil, by simp, fun x hx => (by cases hx), by simp [sumA, sumL, liqs]⟩
  | i + 1, hi => by
    obtain ⟨k1, k2, k3, k4⟩ := joinAll_facts h i (by omega)
    obtain ⟨a1, a2, a3, a4⟩ := h.all _ (atL_mem (show i < l.length by omega))
    obtain ⟨b1, b2, b3, b4⟩ := shareCheck_ok a3
    rw [joinAll_snoc (by omega), liqs_snoc (by omega)]
    have hlen := joinL_length (joinAll (l.take i)) (atL l i).2.2.2
    refine ⟨joinL_sorted _ _ k1 (shareCheck_sorted a3), by omega, fun x hx => ?_, by rw [joinL_sum, k4, a4]⟩
    have := joinL_bound2 _ _ (i * 10737418240000) 10737418240000 (by omega) (by omega) k3 (okS_bound' b3) x hx
    omega
theorem liqs_bound {l : List LotT} (h : RightL l) (i : Nat) (hi : i ≤ l.length) : 0 ≤ (sumL (liqs (l.take i))).1 ∧ (sumL (liqs (l.take i))).1 ≤ i * 10737418240000 ∧ 0 ≤ (sumL (liqs (l.take i))).2 ∧ (sumL (liqs (l.take i))).2 ≤ i * 128849018880000 := by
  have := sumL_bound (xs := liqs (l.take i)) (fun x hx => by
    obtain ⟨y, hy, rfl⟩ := List.mem_map.1 hx
    exact ((h.take i).all y hy).1)
  have e : (liqs (l.take i)).length = i := by unfold liqs; rw [List.length_map, List.length_take]; omega
  rw [e] at this
  exact this
/-- A slice that holds shares: of no elements at first. -/
def ShS (S : SV) (J : List (Int × Int)) : Prop := (S = ⟨.nil, 0, 0, false⟩ ∧ J = []) ∨ S = rowSV true j2 J
theorem ShS.read {S : SV} {J : List (Int × Int)} {lp : Bool} {h : H} (hs : ShS S J) : rdRow lp h [.int .i64, .int .i64] S = some J := by
  rcases hs with ⟨rfl, rfl⟩ | rfl
  · exact rdRow_nil
  · exact rdRow_res rfl
theorem ShS.slen {S : SV} {J : List (Int × Int)} (hs : ShS S J) : S.len = J.length := by
  rcases hs with ⟨rfl, rfl⟩ | rfl <;> rfl
theorem wr_cL {sl : List Slot} {id : Nat} {x : Int × Int × Int × SV} (h : sl[id]? = some (cL x)) :
    (∀ s : SV, H.wrs (hL sl) (.hp id 4 3) [.slice s.a s.len s.cap s.tail] = some (hL (sl.set id (cL (x.1, x.2.1, x.2.2.1, s))))) ∧ (∀ a, H.wrs (hL sl) (.hp id 4 1) [.int .i64 a] = some (hL (sl.set id (cL (x.1, a, x.2.2.1, x.2.2.2))))) ∧ (∀ m, H.wrs (hL sl) (.hp id 4 2) [.int .i64 m] = some (hL (sl.set id (cL (x.1, x.2.1, m, x.2.2.2))))) := by
  refine ⟨fun s => ?_, fun a => ?_, fun m => ?_⟩ <;> (rw [wrs_own (g := 4) h rfl (by simp)]; rfl)
def vatOf (l : List LotT) (n : Int) : LotT × Int :=
  if lotErr l = 0 then (if okId n = true then (if 32 < (joinAll l).length then ((0, 0, 0, []), 12) else if isPlain (sumL (liqs l)) = true then ((n, (sumL (liqs l)).1, (sumL (liqs l)).2, joinAll l), 0) else ((0, 0, 0, []), 15)) else ((0, 0, 0, []), 2)) else ((0, 0, 0, []), 1)
abbrev nilL : Int × Int × Int × SV := (0, 0, 0, ⟨.nil, 0, 0, false⟩)
theorem rdRow_argL {f : Bool} {h : H} {l : List LotT} : rdRow true h [.int .i64, .int .i64, .int .i64, .row [.int .i64, .int .i64]] (rowSV f [.int .i64, .int .i64, .int .i64, .row [.int .i64, .int .i64]] l) = some l := rdRow_args rfl
theorem vat_loop {l : List LotT} {n : Int} (hr : RightL l) : ∃ sl S, iter FUEL (share_Vat.loop1 (rowSV false jL l) (hL [cL nilL])) (0, hL [cL nilL, cL (n, 0, 0, ⟨.nil, 0, 0, false⟩)]) = some (.ex0 (), hL sl) ∧ sl[0]? = some (cL nilL) ∧ sl[1]? = some (cL (n, (sumL (liqs l)).1, (sumL (liqs l)).2, S)) ∧ ShS S (joinAll l) := by
  have hlen := hr.len
  obtain ⟨x, h1, sl, S, rfl, h2⟩ := iter_upto (f := share_Vat.loop1 (rowSV false jL l) (hL [cL nilL])) (fun i st => ∃ sl S, st = ((i : Int), hL sl) ∧ sl[0]? = some (cL nilL) ∧ sl[1]? = some (cL (n, (sumL (liqs (l.take i))).1, (sumL (liqs (l.take i))).2, S)) ∧ ShS S (joinAll (l.take i)))
    (fun x => ∃ sl S, x = (.ex0 (), hL sl) ∧ sl[0]? = some (cL nilL) ∧ sl[1]? = some (cL (n, (sumL (liqs l)).1, (sumL (liqs l)).2, S)) ∧ ShS S (joinAll l)) l.length (fun i st hi hst => by
      obtain ⟨sl, S, rfl, e0, e1, hS⟩ := hst
      have hg1 : 0 ≤ (i : Int) ∧ (i : Int) < (l.length : Int) := by omega
      have hx := atL_some hi
      obtain ⟨a1, a2, a3, a4⟩ := hr.all _ (atL_mem hi)
      obtain ⟨b1, b2, b3, b4⟩ := shareCheck_ok a3
      obtain ⟨j1, j2', j3, j4⟩ := joinAll_facts hr i (by omega)
      have lb := liqs_bound hr i (by omega)
      have hb := isPlain_iff.1 a1
      simp only at hb
      have hl1 := (List.getElem?_eq_some_iff.1 e1).1
      have hja := joinAll_snoc hi
      have hls := liqs_snoc hi
      generalize atL l i = x at *
      obtain ⟨d, a, m, xs⟩ := x
      simp only at a1 a2 a3 a4 b1 b2 b3 b4 hb hja hls
      generalize hA : (sumL (liqs (l.take i))).1 = A at *
      generalize hM : (sumL (liqs (l.take i))).2 = M at *
      generalize hJ : joinAll (l.take i) = J at *
      have e0' : (sl ++ [cL (d, a, m, rowSV false j2 xs)])[0]? = some (cL nilL) := by rw [List.getElem?_append_left (by omega), e0]
      have e1' : (sl ++ [cL (d, a, m, rowSV false j2 xs)])[1]? = some (cL (n, A, M, S)) := by rw [List.getElem?_append_left hl1, e1]
      have e2' : (sl ++ [cL (d, a, m, rowSV false j2 xs)])[sl.length]? = some (cL (d, a, m, rowSV false j2 xs)) := by simp
      have nw := new_cL (sl := sl) (x := (d, a, m, rowSV false j2 xs))
      have r1 := rd_cL e1'
      have r2 := rd_cL e2'
      have w1 := (wr_cL e1').1 (rowSV true j2 (joinL J xs))
      generalize hT : sl ++ [cL (d, a, m, rowSV false j2 xs)] = T at *
      have hTl : 1 < T.length := (List.getElem?_eq_some_iff.1 e1').1
      have hTl2 : sl.length < T.length := (List.getElem?_eq_some_iff.1 e2').1
      have f1 : (T.set 1 (cL (n, A, M, rowSV true j2 (joinL J xs))))[1]? = some (cL (n, A, M, rowSV true j2 (joinL J xs))) := by rw [List.getElem?_set_self hTl]
      have f2 : (T.set 1 (cL (n, A, M, rowSV true j2 (joinL J xs))))[sl.length]? = some (cL (d, a, m, rowSV false j2 xs)) := by rw [List.getElem?_set_ne (by omega), e2']
      have q1 := rd_cL f1
      have q2 := rd_cL f2
      have w2 := (wr_cL f1).2.1 (A + a)
      rw [List.set_set] at w2
      have g1 : (T.set 1 (cL (n, A + a, M, rowSV true j2 (joinL J xs))))[1]? = some (cL (n, A + a, M, rowSV true j2 (joinL J xs))) := by rw [List.getElem?_set_self hTl]
      have w3 := (wr_cL g1).2.2 (M + m)
      rw [List.set_set] at w3
      refine ⟨(((i + 1 : Nat) : Int), hL (T.set 1 (cL (n, A + a, M + m, rowSV true j2 (joinL J xs))))), ?_, _, rowSV true j2 (joinL J xs), rfl, by rw [List.getElem?_set_ne (by omega), e0'], ?_, .inr ?_⟩
      · unfold share_Vat.loop1
        simp only [cL, rowSV_len, rowSV_cap, rowSV_tail] at nw r1 r2 w1 w2 w3 q1 q2 hT
        simp -implicitDefEqProofs only [Int.toNat_natCast, rowSV_len, guardO_pos hg1]
        rw [decide_eq_true hg1.2, cond_true, rd_lot hx]
        simp -implicitDefEqProofs only [evs, reduceIte, rdRes, rdTT, rdTy, rdLT, Res.un, TT.un, Ty.un, LT.un, Leaf.un, Leaf.plain, LT.plain, hL_new, hL_next, List.length_cons, List.length_nil, Nat.zero_add]
        rw [nw]
        simp -implicitDefEqProofs only [evs, reduceIte, rdRes, rdTT, rdTy, rdLT, Res.un, TT.un, Ty.un, LT.un, Leaf.un, Leaf.plain, LT.plain]
        rw [r1.2.2.2]
        simp -implicitDefEqProofs only [evs, reduceIte, rdRes, rdTT, rdTy, rdLT, Res.un, TT.un, Ty.un, LT.un, Leaf.un, Leaf.plain, LT.plain]
        rw [r2.2.2.2]
        simp -implicitDefEqProofs only [evs, reduceIte, rdRes, rdTT, rdTy, rdLT, Res.un, TT.un, Ty.un, LT.un, Leaf.un, Leaf.plain, LT.plain]
        rw [hS.read]
        simp -implicitDefEqProofs only [evs, reduceIte, rdRes, rdTT, rdTy, rdLT, Res.un, TT.un, Ty.un, LT.un, Leaf.un, Leaf.plain, LT.plain]
        rw [union_ok J xs (fun x hx => by have := j3 x hx; omega) (okS_bound b3) (by omega) j1 (shareCheck_sorted a3)]
        simp -implicitDefEqProofs only [evs, reduceIte, rdRes, rdTT, rdTy, rdLT, Res.un, TT.un, Ty.un, LT.un, Leaf.un, Leaf.plain, LT.plain]
        rw [w1]
        simp -implicitDefEqProofs only [evs, reduceIte, rdRes, rdTT, rdTy, rdLT, Res.un, TT.un, Ty.un, LT.un, Leaf.un, Leaf.plain, LT.plain]
        rw [q1.2.1]
        simp -implicitDefEqProofs only [evs, reduceIte, rdRes, rdTT, rdTy, rdLT, Res.un, TT.un, Ty.un, LT.un, Leaf.un, Leaf.plain, LT.plain]
        rw [q2.2.1]
        simp -implicitDefEqProofs only [evs, reduceIte, rdRes, rdTT, rdTy, rdLT, Res.un, TT.un, Ty.un, LT.un, Leaf.un, Leaf.plain, LT.plain]
        rw [q1.2.2.1]
        simp -implicitDefEqProofs only [evs, reduceIte, rdRes, rdTT, rdTy, rdLT, Res.un, TT.un, Ty.un, LT.un, Leaf.un, Leaf.plain, LT.plain]
        rw [q2.2.2.1]
        simp -implicitDefEqProofs only [evs, reduceIte, rdRes, rdTT, rdTy, rdLT, Res.un, TT.un, Ty.un, LT.un, Leaf.un, Leaf.plain, LT.plain]
        rw [i64_in (A + a) (by omega), i64_in (M + m) (by omega), w2]
        simp -implicitDefEqProofs only [evs, reduceIte, rdRes, rdTT, rdTy, rdLT, Res.un, TT.un, Ty.un, LT.un, Leaf.un, Leaf.plain, LT.plain]
        rw [w3]
        simp -implicitDefEqProofs only [evs, reduceIte, rdRes, rdTT, rdTy, rdLT, Res.un, TT.un, Ty.un, LT.un, Leaf.un, Leaf.plain, LT.plain]
        rw [guardO_pos (apart_hp (by omega)), i64_succ (by omega)]
        rfl
      · rw [List.getElem?_set_self hTl, hls]
      · rw [hja]) (fun st hst => by
      obtain ⟨sl, S, rfl, e0, e1, hS⟩ := hst
      rw [List.take_length] at e1 hS
      refine ⟨_, ?_, sl, S, rfl, e0, e1, hS⟩
      unfold share_Vat.loop1
      simp -implicitDefEqProofs only [rowSV_len]
      rw [decide_eq_false (by omega), cond_false]) FUEL 0 (0, hL [cL nilL, cL (n, 0, 0, ⟨.nil, 0, 0, false⟩)]) (by omega) ⟨_, _, rfl, rfl, rfl, .inl ⟨rfl, by simp [joinAll]⟩⟩ (by have := fuel_gt (n := l.length) (by omega); omega)
  exact ⟨sl, S, h1, h2⟩
theorem Vat_ok (l : List LotT) (n : Int) (hl : l.length < 2 ^ 62) : share_VatP l n = some (vatOf l n) := by
  obtain ⟨j, hj⟩ := LCheck_ok l hl
  unfold share_VatP share_Vat vatOf
  simp -implicitDefEqProofs only [evs, reduceIte, rdRes, rdTT, rdTy, rdLT, Res.un, TT.un, Ty.un, LT.un, Leaf.un, Leaf.plain, LT.plain, hL_empty, hL_new, hL_next, List.nil_append, List.length_nil, List.length_cons, Nat.zero_add, List.cons_append, rdRow_argL]
  rw [hj]
  simp -implicitDefEqProofs only [evs, reduceIte, rdRes, rdTT, rdTy, rdLT, Res.un, TT.un, Ty.un, LT.un, Leaf.un, Leaf.plain, LT.plain]
  have z0 : [cL nilL][0]? = some (cL nilL) := rfl
  have zw := wrs_cL (y := nilL) z0
  have zr := rds_cL z0
  simp only [cL, List.set_cons_zero] at zw zr
  by_cases he : lotErr l = 0
  · rw [decide_eq_true he, if_pos he]
    simp -implicitDefEqProofs only [evs, reduceIte, rdRes, rdTT, rdTy, rdLT, Res.un, TT.un, Ty.un, LT.un, Leaf.un, Leaf.plain, LT.plain]
    rw [Sid_ok]
    simp -implicitDefEqProofs only [evs, reduceIte, rdRes, rdTT, rdTy, rdLT, Res.un, TT.un, Ty.un, LT.un, Leaf.un, Leaf.plain, LT.plain]
    cases hid : okId n with
    | false =>
      simp -implicitDefEqProofs only [evs, reduceIte, rdRes, rdTT, rdTy, rdLT, Res.un, TT.un, Ty.un, LT.un, Leaf.un, Leaf.plain, LT.plain, Bool.false_eq_true]
      rw [zw]
      simp -implicitDefEqProofs only [evs, reduceIte, rdRes, rdTT, rdTy, rdLT, Res.un, TT.un, Ty.un, LT.un, Leaf.un, Leaf.plain, LT.plain]
      rw [zr]
      simp -implicitDefEqProofs only [evs, reduceIte, rdRes, rdTT, rdTy, rdLT, Res.un, TT.un, Ty.un, LT.un, Leaf.un, Leaf.plain, LT.plain]
    | true =>
      simp -implicitDefEqProofs only [evs, reduceIte, rdRes, rdTT, rdTy, rdLT, Res.un, TT.un, Ty.un, LT.un, Leaf.un, Leaf.plain, LT.plain, eq_self]
      have nw := new_cL (sl := [cL nilL]) (x := (n, 0, 0, ⟨.nil, 0, 0, false⟩))
      simp only [cL, List.cons_append, List.nil_append, List.length_cons, List.length_nil, Nat.zero_add] at nw
      rw [nw]
      simp -implicitDefEqProofs only [evs, reduceIte, rdRes, rdTT, rdTy, rdLT, Res.un, TT.un, Ty.un, LT.un, Leaf.un, Leaf.plain, LT.plain]
      obtain ⟨sl, S, hloop, e0, e1, hS⟩ := vat_loop (n := n) (rightL_of he)
      simp only [cL] at hloop
      rw [hloop]
      simp -implicitDefEqProofs only [evs, reduceIte, rdRes, rdTT, rdTy, rdLT, Res.un, TT.un, Ty.un, LT.un, Leaf.un, Leaf.plain, LT.plain]
      rw [rdl_cL e1]
      simp -implicitDefEqProofs only [evs, reduceIte, rdRes, rdTT, rdTy, rdLT, Res.un, TT.un, Ty.un, LT.un, Leaf.un, Leaf.plain, LT.plain, rdRow_one2]
      have hb := liqs_bound (rightL_of he) l.length (Nat.le_refl _)
      rw [List.take_length] at hb
      rw [Sum_ok _ (by simp)]
      generalize hT : sumL (liqs l) = tot at *
      obtain ⟨A, M⟩ := tot
      simp only at hb e1
      have hsum : sumOf [(A, M)] = if isPlain (A, M) = true then ((A, M), 0) else ((0, 0), 1) := by
        have hs : sumL [(A, M)] = (A, M) := by simp [sumL]
        unfold sumOf
        rw [if_neg (by simp), hs]
        cases h : isPlain (A, M) <;> simp [h]
      rw [hsum]
      have nw2 : ∀ y : Int × Int, H.wrs (hL (sl ++ [Slot.own [V.int .i64 0, V.int .i64 0] 2])) (.hp sl.length 2 0) [.int .i64 y.1, .int .i64 y.2] = some (hL (sl ++ [c2 y])) := fun y => new_c2
      have e0' : ∀ y : Int × Int, (sl ++ [c2 y])[0]? = some (cL nilL) := fun y => by rw [List.getElem?_append_left (List.getElem?_eq_some_iff.1 e0).1, e0]
      have e1' : ∀ y : Int × Int, (sl ++ [c2 y])[1]? = some (cL (n, A, M, S)) := fun y => by rw [List.getElem?_append_left (List.getElem?_eq_some_iff.1 e1).1, e1]
      have hl0 : ∀ y : Int × Int, 0 < (sl ++ [c2 y]).length := fun y => by simp
      have fin : ∀ (y : Int × Int) (x : Int × Int × Int × SV), H.wrs (hL (sl ++ [c2 y])) (.hp 0 4 0) [.int .i64 x.1, .int .i64 x.2.1, .int .i64 x.2.2.1, .slice x.2.2.2.a x.2.2.2.len x.2.2.2.cap x.2.2.2.tail] = some (hL ((sl ++ [c2 y]).set 0 (cL x))) ∧ rdT (.agg [.int .i64, .int .i64, .int .i64, .slice]) (hL ((sl ++ [c2 y]).set 0 (cL x))) (.hp 0 4 0) = some x := fun y x => ⟨wrs_cL (e0' y), rds_cL (by rw [List.getElem?_set_self (hl0 y)])⟩
      have hSl := hS.slen
      by_cases hp : isPlain (A, M) = true
      · rw [if_pos hp]
        simp -implicitDefEqProofs only [evs, reduceIte, rdRes, rdTT, rdTy, rdLT, Res.un, TT.un, Ty.un, LT.un, Leaf.un, Leaf.plain, LT.plain, hL_new, hL_next]
        rw [nw2 (A, M)]
        simp -implicitDefEqProofs only [evs, reduceIte, rdRes, rdTT, rdTy, rdLT, Res.un, TT.un, Ty.un, LT.un, Leaf.un, Leaf.plain, LT.plain]
        rw [(rd_cL (e1' _)).2.2.2]
        simp -implicitDefEqProofs only [evs, reduceIte, rdRes, rdTT, rdTy, rdLT, Res.un, TT.un, Ty.un, LT.un, Leaf.un, Leaf.plain, LT.plain, hSl]
        by_cases h32 : 32 < (joinAll l).length
        · rw [decide_eq_true (show (32 : Int) < ((joinAll l).length : Int) by omega), if_pos h32]
          simp -implicitDefEqProofs only [evs, reduceIte, rdRes, rdTT, rdTy, rdLT, Res.un, TT.un, Ty.un, LT.un, Leaf.un, Leaf.plain, LT.plain]
          rw [(fin _ nilL).1]
          simp -implicitDefEqProofs only [evs, reduceIte, rdRes, rdTT, rdTy, rdLT, Res.un, TT.un, Ty.un, LT.un, Leaf.un, Leaf.plain, LT.plain]
          rw [(fin _ nilL).2]
          simp -implicitDefEqProofs only [evs, reduceIte, rdRes, rdTT, rdTy, rdLT, Res.un, TT.un, Ty.un, LT.un, Leaf.un, Leaf.plain, LT.plain]
        · rw [decide_eq_false (show ¬ (32 : Int) < ((joinAll l).length : Int) by omega), if_neg h32, if_pos hp]
          simp -implicitDefEqProofs only [evs, reduceIte, rdRes, rdTT, rdTy, rdLT, Res.un, TT.un, Ty.un, LT.un, Leaf.un, Leaf.plain, LT.plain, eq_self, decide_true]
          rw [rds_cL (e1' _)]
          simp -implicitDefEqProofs only [evs, reduceIte, rdRes, rdTT, rdTy, rdLT, Res.un, TT.un, Ty.un, LT.un, Leaf.un, Leaf.plain, LT.plain]
          rw [(fin _ (n, A, M, S)).1]
          simp -implicitDefEqProofs only [evs, reduceIte, rdRes, rdTT, rdTy, rdLT, Res.un, TT.un, Ty.un, LT.un, Leaf.un, Leaf.plain, LT.plain]
          rw [(fin _ (n, A, M, S)).2]
          simp -implicitDefEqProofs only [evs, reduceIte, rdRes, rdTT, rdTy, rdLT, Res.un, TT.un, Ty.un, LT.un, Leaf.un, Leaf.plain, LT.plain]
          rw [hS.read]
          simp -implicitDefEqProofs only [evs, reduceIte, rdRes, rdTT, rdTy, rdLT, Res.un, TT.un, Ty.un, LT.un, Leaf.un, Leaf.plain, LT.plain]
      · rw [if_neg hp]
        simp -implicitDefEqProofs only [evs, reduceIte, rdRes, rdTT, rdTy, rdLT, Res.un, TT.un, Ty.un, LT.un, Leaf.un, Leaf.plain, LT.plain, hL_new, hL_next]
        rw [nw2 (0, 0)]
        simp -implicitDefEqProofs only [evs, reduceIte, rdRes, rdTT, rdTy, rdLT, Res.un, TT.un, Ty.un, LT.un, Leaf.un, Leaf.plain, LT.plain]
        rw [(rd_cL (e1' _)).2.2.2]
        simp -implicitDefEqProofs only [evs, reduceIte, rdRes, rdTT, rdTy, rdLT, Res.un, TT.un, Ty.un, LT.un, Leaf.un, Leaf.plain, LT.plain, hSl]
        by_cases h32 : 32 < (joinAll l).length
        · rw [decide_eq_true (show (32 : Int) < ((joinAll l).length : Int) by omega), if_pos h32]
          simp -implicitDefEqProofs only [evs, reduceIte, rdRes, rdTT, rdTy, rdLT, Res.un, TT.un, Ty.un, LT.un, Leaf.un, Leaf.plain, LT.plain]
          rw [(fin _ nilL).1]
          simp -implicitDefEqProofs only [evs, reduceIte, rdRes, rdTT, rdTy, rdLT, Res.un, TT.un, Ty.un, LT.un, Leaf.un, Leaf.plain, LT.plain]
          rw [(fin _ nilL).2]
          simp -implicitDefEqProofs only [evs, reduceIte, rdRes, rdTT, rdTy, rdLT, Res.un, TT.un, Ty.un, LT.un, Leaf.un, Leaf.plain, LT.plain]
        · rw [decide_eq_false (show ¬ (32 : Int) < ((joinAll l).length : Int) by omega), if_neg h32, if_neg hp, decide_eq_false (show ¬ (1 : Int) = 0 by omega)]
          simp -implicitDefEqProofs only [evs, reduceIte, rdRes, rdTT, rdTy, rdLT, Res.un, TT.un, Ty.un, LT.un, Leaf.un, Leaf.plain, LT.plain]
          rw [(fin _ nilL).1]
          simp -implicitDefEqProofs only [evs, reduceIte, rdRes, rdTT, rdTy, rdLT, Res.un, TT.un, Ty.un, LT.un, Leaf.un, Leaf.plain, LT.plain]
          rw [(fin _ nilL).2]
          simp -implicitDefEqProofs only [evs, reduceIte, rdRes, rdTT, rdTy, rdLT, Res.un, TT.un, Ty.un, LT.un, Leaf.un, Leaf.plain, LT.plain]
  · rw [decide_eq_false he, if_neg he]
    simp -implicitDefEqProofs only [evs, reduceIte, rdRes, rdTT, rdTy, rdLT, Res.un, TT.un, Ty.un, LT.un, Leaf.un, Leaf.plain, LT.plain]
    rw [zw]
    simp -implicitDefEqProofs only [evs, reduceIte, rdRes, rdTT, rdTy, rdLT, Res.un, TT.un, Ty.un, LT.un, Leaf.un, Leaf.plain, LT.plain]
    rw [zr]
    simp -implicitDefEqProofs only [evs, reduceIte, rdRes, rdTT, rdTy, rdLT, Res.un, TT.un, Ty.un, LT.un, Leaf.un, Leaf.plain, LT.plain]
end Go.Proofs.Ytbcpdecgfdlaaaa
/- Vat of the reference; the law ShareLots in plain numbers. Conditions: none. -/
namespace Go.Proofs.Ytbcpdecgfdlaaaa
open Go Go.Proofs.Ytbcpdecgfdlaaaa.Ev
set_option linter.unusedVariables false
set_option linter.unusedSimpArgs false
set_option maxRecDepth 100000
set_option maxHeartbeats 4000000
theorem Few22_ok (l : List LotT) : ∃ b, spileref22_FewP l = some b ∧ (b = true → l.length ≤ 37 ∧ ∀ x ∈ l, x.2.2.2.length ≤ 37) := by
  unfold spileref22_FewP spileref22_Few
  have loop : l.length ≤ 37 → ∃ fl, iter FUEL (spileref22_Few.loop1 (rowSV false jL l)) (0, H.empty) = some (fl, H.empty) ∧ (fl = .ret false ∨ fl = .ex0 () ∧ ∀ x ∈ l, x.2.2.2.length ≤ 37) := fun hl => by
    obtain ⟨x, h1, h2⟩ := iter_inv (f := spileref22_Few.loop1 (rowSV false jL l)) (Inv := fun st => ∃ i : Nat, st = ((i : Int), H.empty) ∧ i ≤ l.length ∧ ∀ j, j < i → (atL l j).2.2.2.length ≤ 37)
      (Post := fun x => ∃ fl, x = (fl, H.empty) ∧ (fl = .ret false ∨ fl = .ex0 () ∧ ∀ x ∈ l, x.2.2.2.length ≤ 37)) (fun st => l.length - st.1.toNat) (fun st hst => by
        obtain ⟨i, rfl, hi, hall⟩ := hst
        rcases Nat.lt_or_ge i l.length with hlt | hge
        · have hg1 : 0 ≤ (i : Int) ∧ (i : Int) < (l.length : Int) := by omega
          obtain ⟨b, hb, hb2⟩ := FewShares_ok (atL l i).2.2.2
          have step : spileref22_Few.loop1 (rowSV false jL l) ((i : Int), H.empty) = some (if b = true then .more (((i + 1 : Nat) : Int), H.empty) else .done (.ret false, H.empty)) := by
            unfold spileref22_Few.loop1
            simp -implicitDefEqProofs only [evs, reduceIte, rdRes, rdTT, rdTy, rdLT, Res.un, TT.un, Ty.un, LT.un, Leaf.un, Leaf.plain, LT.plain, Int.toNat_natCast, guardO_pos hg1]
            rw [decide_eq_true hg1.2]
            simp -implicitDefEqProofs only [evs, reduceIte, rdRes, rdTT, rdTy, rdLT, Res.un, TT.un, Ty.un, LT.un, Leaf.un, Leaf.plain, LT.plain, guardO_pos hg1]
            rw [guardO_pos (nn_lot hlt), rd_lot3 (atL_some hlt)]
            simp -implicitDefEqProofs only [evs, reduceIte, rdRes, rdTT, rdTy, rdLT, Res.un, TT.un, Ty.un, LT.un, Leaf.un, Leaf.plain, LT.plain]
            rw [hb]
            simp -implicitDefEqProofs only [evs, reduceIte, rdRes, rdTT, rdTy, rdLT, Res.un, TT.un, Ty.un, LT.un, Leaf.un, Leaf.plain, LT.plain]
            cases b with
            | true => simp -implicitDefEqProofs only [evs, reduceIte, rdRes, rdTT, rdTy, rdLT, Res.un, TT.un, Ty.un, LT.un, Leaf.un, Leaf.plain, LT.plain, eq_self]; rw [i64_succ (by omega)]
            | false => simp -implicitDefEqProofs only [evs, reduceIte, rdRes, rdTT, rdTy, rdLT, Res.un, TT.un, Ty.un, LT.un, Leaf.un, Leaf.plain, LT.plain, Bool.false_eq_true]
          cases b with
          | true =>
            refine .inl ⟨_, step, ⟨i + 1, rfl, by omega, fun j hj => ?_⟩, ?_⟩
            · rcases Nat.lt_or_ge j i with h | h
              · exact hall j h
              · obtain rfl : j = i := by omega
                exact hb2 rfl
            · simp only [Int.toNat_natCast]; omega
          | false => exact .inr ⟨_, step, _, rfl, .inl rfl⟩
        · refine .inr ⟨(.ex0 (), H.empty), ?_, _, rfl, .inr ⟨rfl, fun x hx => ?_⟩⟩
          · unfold spileref22_Few.loop1
            simp -implicitDefEqProofs only [rowSV_len]
            rw [decide_eq_false (by omega), cond_false]
          · obtain ⟨j, hj, e⟩ := List.getElem_of_mem hx
            have := hall j (by omega)
            have e1 := atL_some hj
            rw [List.getElem?_eq_getElem hj, e] at e1
            rw [Option.some.inj e1]
            exact this) FUEL (0, H.empty) ⟨0, rfl, by omega, fun j hj => by omega⟩ (by simp only; have := fuel_gt (n := l.length) (by omega); simp; omega)
    obtain ⟨fl, rfl, h3⟩ := h2
    exact ⟨fl, h1, h3⟩
  have rest : ∃ b, ((bif decide ((37 : Int) < (l.length : Int)) then some (false, H.empty) else ((iter FUEL (spileref22_Few.loop1 (rowSV false jL l)) (0, H.empty)).bind fun (fl9, h8) => match fl9 with
      | .next _ => none
      | .ret rr10 => (some (rr10, h8))
      | .ex0 _ => (some (true, h8))
      | .ex1 _ => none) : Option (Bool × H)).bind fun p => some p.1) = some b ∧ (b = true → l.length ≤ 37 ∧ ∀ x ∈ l, x.2.2.2.length ≤ 37) := by
    by_cases h37 : 37 < l.length
    · rw [decide_eq_true (show (37 : Int) < (l.length : Int) by omega)]
      exact ⟨false, rfl, fun h => by cases h⟩
    · rw [decide_eq_false (show ¬ (37 : Int) < (l.length : Int) by omega)]
      obtain ⟨fl, h1, h2⟩ := loop (by omega)
      rw [h1]
      rcases h2 with rfl | ⟨rfl, h2⟩
      · exact ⟨false, rfl, fun h => by cases h⟩
      · exact ⟨true, rfl, fun _ => ⟨by omega, h2⟩⟩
  simp -implicitDefEqProofs only [evs, reduceIte, rdRes, rdTT, rdTy, rdLT, Res.un, TT.un, Ty.un, LT.un, Leaf.un, Leaf.plain, LT.plain]
  by_cases h8 : (8 : Int) < (l.length : Int)
  · rw [decide_eq_true h8]
    simp -implicitDefEqProofs only [evs, reduceIte, rdRes, rdTT, rdTy, rdLT, Res.un, TT.un, Ty.un, LT.un, Leaf.un, Leaf.plain, LT.plain]
    by_cases h32 : (l.length : Int) ≤ 32
    · rw [decide_eq_true h32]
      simp -implicitDefEqProofs only [evs, reduceIte, rdRes, rdTT, rdTy, rdLT, Res.un, TT.un, Ty.un, LT.un, Leaf.un, Leaf.plain, LT.plain]
      exact ⟨false, rfl, fun h => by cases h⟩
    · rw [decide_eq_false h32]
      simp -implicitDefEqProofs only [evs, reduceIte, rdRes, rdTT, rdTy, rdLT, Res.un, TT.un, Ty.un, LT.un, Leaf.un, Leaf.plain, LT.plain]
      exact rest
  · rw [decide_eq_false h8]
    simp -implicitDefEqProofs only [evs, reduceIte, rdRes, rdTT, rdTy, rdLT, Res.un, TT.un, Ty.un, LT.un, Leaf.un, Leaf.plain, LT.plain]
    exact rest
theorem SameLot_ok (x y : LotT) (hl : x.2.2.2.length < 2 ^ 63) : spileref22_SameLotP x y = some (decide (x = y)) := by
  obtain ⟨d, a, m, xs⟩ := x
  obtain ⟨d', a', m', ys⟩ := y
  simp only at hl
  unfold spileref22_SameLotP spileref22_SameLot
  simp -implicitDefEqProofs only [evs, reduceIte, rdRes, rdTT, rdTy, rdLT, Res.un, TT.un, Ty.un, LT.un, Leaf.un, Leaf.plain, LT.plain, evh, List.replicate, splice, LT.pack, Leaf.pack, Nat.reduceAdd, Nat.reduceSub, Nat.reduceLeDiff, Nat.reduceLT, Nat.reduceEqDiff, LT.lo, Leaf.lo, rdRow_a2]
  by_cases h1 : d = d'
  · rw [decide_eq_true h1]
    simp -implicitDefEqProofs only [evs, reduceIte, rdRes, rdTT, rdTy, rdLT, Res.un, TT.un, Ty.un, LT.un, Leaf.un, Leaf.plain, LT.plain, evh, List.replicate, splice, LT.pack, Leaf.pack, Nat.reduceAdd, Nat.reduceSub, Nat.reduceLeDiff, Nat.reduceLT, Nat.reduceEqDiff, LT.lo, Leaf.lo, rdRow_a2]
    by_cases h2 : a = a'
    · rw [decide_eq_true h2]
      by_cases h3 : m = m'
      · rw [decide_eq_true h3]
        simp -implicitDefEqProofs only [evs, reduceIte, rdRes, rdTT, rdTy, rdLT, Res.un, TT.un, Ty.un, LT.un, Leaf.un, Leaf.plain, LT.plain, evh, List.replicate, splice, LT.pack, Leaf.pack, Nat.reduceAdd, Nat.reduceSub, Nat.reduceLeDiff, Nat.reduceLT, Nat.reduceEqDiff, LT.lo, Leaf.lo, rdRow_a2]
        rw [same23_ok xs ys hl]
        simp -implicitDefEqProofs only [evs, reduceIte, rdRes, rdTT, rdTy, rdLT, Res.un, TT.un, Ty.un, LT.un, Leaf.un, Leaf.plain, LT.plain, evh, List.replicate, splice, LT.pack, Leaf.pack, Nat.reduceAdd, Nat.reduceSub, Nat.reduceLeDiff, Nat.reduceLT, Nat.reduceEqDiff, LT.lo, Leaf.lo]
        by_cases h4 : xs = ys
        · rw [decide_eq_true h4, decide_eq_true (by rw [h1, h2, h3, h4])]
        · rw [decide_eq_false h4, decide_eq_false (show ¬ ((d, a, m, xs) : LotT) = (d', a', m', ys) from fun h => h4 (by cases h; rfl))]
      · rw [decide_eq_false h3, decide_eq_false (show ¬ ((d, a, m, xs) : LotT) = (d', a', m', ys) from fun h => h3 (by cases h; rfl))]
        simp -implicitDefEqProofs only [evs, reduceIte, rdRes, rdTT, rdTy, rdLT, Res.un, TT.un, Ty.un, LT.un, Leaf.un, Leaf.plain, LT.plain, evh, List.replicate, splice, LT.pack, Leaf.pack, Nat.reduceAdd, Nat.reduceSub, Nat.reduceLeDiff, Nat.reduceLT, Nat.reduceEqDiff, LT.lo, Leaf.lo]
    · rw [decide_eq_false h2, decide_eq_false (show ¬ ((d, a, m, xs) : LotT) = (d', a', m', ys) from fun h => h2 (by cases h; rfl))]
      simp -implicitDefEqProofs only [evs, reduceIte, rdRes, rdTT, rdTy, rdLT, Res.un, TT.un, Ty.un, LT.un, Leaf.un, Leaf.plain, LT.plain, evh, List.replicate, splice, LT.pack, Leaf.pack, Nat.reduceAdd, Nat.reduceSub, Nat.reduceLeDiff, Nat.reduceLT, Nat.reduceEqDiff, LT.lo, Leaf.lo, Bool.false_and]
  · rw [decide_eq_false h1, decide_eq_false (show ¬ ((d, a, m, xs) : LotT) = (d', a', m', ys) from fun h => h1 (by cases h; rfl))]
    simp -implicitDefEqProofs only [evs, reduceIte, rdRes, rdTT, rdTy, rdLT, Res.un, TT.un, Ty.un, LT.un, Leaf.un, Leaf.plain, LT.plain, evh, List.replicate, splice, LT.pack, Leaf.pack, Nat.reduceAdd, Nat.reduceSub, Nat.reduceLeDiff, Nat.reduceLT, Nat.reduceEqDiff, LT.lo, Leaf.lo]
end Go.Proofs.Ytbcpdecgfdlaaaa
/- Lots whose numbers are set anew; the law ShareDraws in plain numbers. Conditions: none. -/
namespace Go.Proofs.Ytbcpdecgfdlaaaa
open Go Go.Proofs.Ytbcpdecgfdlaaaa.Ev
set_option linter.unusedVariables false
set_option linter.unusedSimpArgs false
set_option maxRecDepth 100000
set_option maxHeartbeats 4000000
theorem cells_set0 {v : Int} : ∀ {l : List LotT} {i : Nat}, i < l.length → splice (cellsL jL l) (i * 4) [V.int .i64 v] = cellsL jL (l.set i (v, (atL l i).2))
  | [], _, h => by simp at h
  | x :: l, 0, _ => rfl
  | x :: l, i + 1, h => by
    have hi : i < l.length := by simpa using h
    have ih := cells_set0 (v := v) hi
    have e : atL (x :: l) (i + 1) = atL l i := by simp [atL]
    rw [e, List.set_cons_succ]
    have e2 : ∀ m : List LotT, cellsL jL (x :: m) = LT.lo true jL x ++ cellsL jL m := fun m => by simp [cellsL]
    rw [e2, e2, ← ih, show (i + 1) * 4 = i * 4 + 4 by omega]
    rfl
/-- The numbers of the first lots set anew. -/
def renTo (l : List LotT) (i : Nat) : List LotT := l.mapIdx fun j x => if j < i then ((j : Int) + 1, x.2) else x
theorem renTo_length {l : List LotT} {i : Nat} : (renTo l i).length = l.length := by simp [renTo]
theorem renTo_get {l : List LotT} {i j : Nat} : (renTo l i)[j]? = (l[j]?).map fun x => if j < i then ((j : Int) + 1, x.2) else x := by
  unfold renTo
  rw [List.getElem?_mapIdx]
theorem renTo_zero {l : List LotT} : renTo l 0 = l := List.ext_getElem? fun j => by
  rw [renTo_get]
  cases l[j]? <;> simp
theorem renTo_succ {l : List LotT} {i : Nat} (hi : i < l.length) : (renTo l i).set i ((i : Int) + 1, (atL (renTo l i) i).2) = renTo l (i + 1) := List.ext_getElem? fun j => by
  have hx := atL_some hi
  have h1 : (renTo l i)[i]? = some (atL l i) := by rw [renTo_get, hx]; simp
  have h2 : atL (renTo l i) i = atL l i := by unfold atL at *; rw [h1]; rfl
  rw [h2, renTo_get]
  by_cases h : i = j
  · subst h
    rw [List.getElem?_set_self (by rw [renTo_length]; exact hi), hx]
    simp
  · rw [List.getElem?_set_ne h, renTo_get]
    cases l[j]? with
    | none => rfl
    | some x =>
      simp only [Option.map_some]
      by_cases h3 : j < i
      · rw [if_pos h3, if_pos (by omega)]
      · rw [if_neg h3, if_neg (by omega)]
theorem Acc.nnL {sl : List Slot} {l : List LotT} {s : SV} {o : Option Nat} {i : Nat} (h : Acc sl jL l s o) (hi : i < l.length) : V.nn (V.add s.a (i * 4)) = true := by
  cases o with
  | none => obtain ⟨rfl, _⟩ := h; simp at hi
  | some id => obtain ⟨h1, rfl, h3⟩ := h; rfl
theorem Acc.setId {sl : List Slot} {l : List LotT} {s : SV} {o : Option Nat} {i : Nat} {v : Int} (h : Acc sl jL l s o) (hi : i < l.length) : ∃ sl', H.wrs (hL sl) (V.add (V.add s.a (i * 4)) 0) [.int .i64 v] = some (hL sl') ∧ Acc sl' jL (l.set i (v, (atL l i).2)) s o ∧ sl'.length = sl.length ∧ ∀ j, o ≠ some j → sl'[j]? = sl[j]? := by
  cases o with
  | none => obtain ⟨rfl, _⟩ := h; simp at hi
  | some id =>
    obtain ⟨h1, rfl, h3⟩ := h
    have hid := (List.getElem?_eq_some_iff.1 h3).1
    have hlen : (cellsL jL l).length = l.length * 4 := flat_length (ls := jL) l
    have hm : (i + 1) * 4 ≤ l.length * 4 := Nat.mul_le_mul_right _ hi
    refine ⟨sl.set id (.own (cellsL jL (l.set i (v, (atL l i).2))) 4), ?_, ⟨by simp; omega, ?_, ?_⟩, by simp, fun j hj => ?_⟩
    · simp only [ownSV, V.add, Nat.zero_add, Nat.add_zero]
      show H.wrs (hL sl) (.hp id (l.length * 4) (i * 4)) [.int .i64 v] = _
      rw [wrs_own (g := l.length * 4) h3 hlen (by show i * 4 + 1 ≤ l.length * 4; omega), cells_set0 hi]
      rfl
    · simp only [ownSV, List.length_set]
    · rw [List.getElem?_set_self hid]
      rfl
    · rw [List.getElem?_set_ne (fun e => hj (by rw [e]))]
/-- A loop that sets the numbers anew. -/
theorem ids_loop {l : List LotT} {sl : List Slot} {s : SV} {o : Option Nat} {F : (Int) × H → Option (Stp ((Int) × H) (Flow (Unit) (Bool) × H))} (hacc : Acc sl jL l s o) (hl : l.length < 2 ^ 62)
    (hF : ∀ (i : Nat) (h : H), i < l.length → F ((i : Int), h) = ((H.wrs h (V.add (V.add s.a (i * 4)) 0) [.int .i64 ((i : Int) + 1)]).bind fun h => some (.more (((i + 1 : Nat) : Int), h)))) (hD : ∀ h, F ((l.length : Int), h) = some (.done (.ex0 (), h))) :
    ∃ sl', iter FUEL F (0, hL sl) = some (.ex0 (), hL sl') ∧ Acc sl' jL (renTo l l.length) s o ∧ ∀ j, o ≠ some j → sl'[j]? = sl[j]? := by
  obtain ⟨x, h1, sl', rfl, h2, h3⟩ := iter_upto (f := F) (fun i st => ∃ sl', st = ((i : Int), hL sl') ∧ Acc sl' jL (renTo l i) s o ∧ ∀ j, o ≠ some j → sl'[j]? = sl[j]?)
    (fun x => ∃ sl', x = (.ex0 (), hL sl') ∧ Acc sl' jL (renTo l l.length) s o ∧ ∀ j, o ≠ some j → sl'[j]? = sl[j]?) l.length (fun i st hi hst => by
      obtain ⟨sl', rfl, k1, k2⟩ := hst
      obtain ⟨sl2, j1, j2', j3, j4⟩ := Acc.setId (v := (i : Int) + 1) k1 (show i < (renTo l i).length by rw [renTo_length]; exact hi)
      refine ⟨_, by rw [hF i _ hi, j1]; rfl, sl2, rfl, by rw [← renTo_succ hi]; exact j2', fun j hj => by rw [j4 j hj, k2 j hj]⟩) (fun st hst => by
      obtain ⟨sl', rfl, k1, k2⟩ := hst
      exact ⟨_, hD _, sl', rfl, k1, k2⟩) FUEL 0 (0, hL sl) (by omega) ⟨sl, rfl, by rw [renTo_zero]; exact hacc, fun _ _ => rfl⟩ (by have := fuel_gt (n := l.length) (by omega); omega)
  exact ⟨sl', h1, h2, h3⟩
abbrev cells2 (a b : LotT) : List V := [.int .i64 a.1, .int .i64 a.2.1, .int .i64 a.2.2.1, .slice (rowSV true j2 a.2.2.2).a a.2.2.2.length a.2.2.2.length true, .int .i64 b.1, .int .i64 b.2.1, .int .i64 b.2.2.1, .slice (rowSV true j2 b.2.2.2).a b.2.2.2.length b.2.2.2.length true]
/-- Vatting lots that are right but for their numbers, numbered anew. -/
theorem vat_renumbered {l : List LotT} {n : Int} (hl : l.length ≤ 32) (h : ∀ x ∈ l, oneOf x = 0) : lotErr (renTo l l.length) = 0 := by
  unfold lotErr
  rw [renTo_length, if_neg (by omega)]
  have hf : ∀ i, i < l.length → lfault (renTo l l.length) i = 0 := fun i hi => by
    have e : ∀ j, j < l.length → atL (renTo l l.length) j = ((j : Int) + 1, (atL l j).2) := fun j hj => by
      have : (renTo l l.length)[j]? = some ((j : Int) + 1, (atL l j).2) := by rw [renTo_get, atL_some hj]; simp [hj]
      unfold atL at *
      rw [this]; rfl
    unfold lfault
    rw [e i hi, if_pos (okId_iff.2 (by simp only; omega)), if_neg (fun k => by
      have k2 := k.2
      rw [e (i - 1) (by omega)] at k2
      simp only at k2
      omega)]
    have := h _ (atL_mem hi)
    unfold oneOf at *
    exact this
  rcases first_cases (lfault (renTo l l.length)) l.length with ⟨_, e⟩ | ⟨m, hm, hne, _⟩
  · exact e
  · exact absurd (hf m hm) hne
theorem joinAll_ren (l : List LotT) (i : Nat) : joinAll (renTo l i) = joinAll l ∧ liqs (renTo l i) = liqs l := by
  have h1 : (renTo l i).map (·.2.2.2) = l.map (·.2.2.2) := List.ext_getElem? fun j => by
    rw [List.getElem?_map, renTo_get, List.getElem?_map]
    cases l[j]? with
    | none => rfl
    | some x => simp only [Option.map_some]; split <;> rfl
  have h2 : ∀ l : List LotT, joinAll l = (l.map (·.2.2.2)).foldl joinL [] := fun l => by unfold joinAll; rw [List.foldl_map]
  refine ⟨by rw [h2, h2, h1], List.ext_getElem? fun j => ?_⟩
  unfold liqs
  rw [List.getElem?_map, renTo_get, List.getElem?_map]
  cases l[j]? with
  | none => rfl
  | some x => simp only [Option.map_some]; split <;> rfl
end Go.Proofs.Ytbcpdecgfdlaaaa
/- The law ShareDraws in plain numbers. Conditions: none. -/
namespace Go.Proofs.Ytbcpdecgfdlaaaa
open Go Go.Proofs.Ytbcpdecgfdlaaaa.Ev
set_option linter.unusedVariables false
set_option linter.unusedSimpArgs false
set_option maxRecDepth 100000
set_option maxHeartbeats 4000000
end Go.Proofs.Ytbcpdecgfdlaaaa
/- Lots in another order, and in groups: the plain law of ShareVats. Conditions: those of each law. -/
namespace Go.Proofs.Ytbcpdecgfdlaaaa
open Go Go.Proofs.Ytbcpdecgfdlaaaa.Ev
set_option linter.unusedVariables false
set_option linter.unusedSimpArgs false
set_option maxRecDepth 100000
set_option maxHeartbeats 4000000
/-- Shares in order, none of them empty, their numbers in range. -/
def Good (xs : List (Int × Int)) : Prop := SortedF xs ∧ ∀ x ∈ xs, okId x.1 = true ∧ 0 < x.2
theorem good_nil : Good [] := ⟨List.Pairwise.nil, fun x h => by cases h⟩
theorem good_right {xs : List (Int × Int)} (h : shareCheck xs = 0) : Good xs := by
  obtain ⟨k1, k2, k3, k4⟩ := shareCheck_ok h
  exact ⟨shareCheck_sorted h, fun x hx => by have := okS_iff.1 (k3 x hx); exact ⟨okId_iff.2 (by omega), by omega⟩⟩
theorem joinL_pos (xs ys : List (Int × Int)) : (∀ x ∈ xs, okId x.1 = true ∧ 0 < x.2) → (∀ x ∈ ys, okId x.1 = true ∧ 0 < x.2) → ∀ x ∈ joinL xs ys, okId x.1 = true ∧ 0 < x.2 := by
  refine joinL_cases (P := fun xs ys => (∀ x ∈ xs, okId x.1 = true ∧ 0 < x.2) → (∀ x ∈ ys, okId x.1 = true ∧ 0 < x.2) → ∀ x ∈ joinL xs ys, okId x.1 = true ∧ 0 < x.2) (fun ys h1 h2 p hp => by rw [nil_joinL] at hp; exact h2 p hp) (fun xs h1 h2 p hp => by rw [joinL_nil] at hp; exact h1 p hp) (fun x xs y ys h ih h1 h2 p hp => ?_) (fun x xs y ys h ih h1 h2 p hp => ?_) (fun x xs y ys h ih h1 h2 p hp => ?_) _ xs ys (Nat.le_refl _)
  · rw [joinL_lt h] at hp
    rcases List.mem_cons.1 hp with rfl | hp
    · exact h1 p (by simp)
    · exact ih (fun z hz => h1 z (by simp [hz])) h2 p hp
  · rw [joinL_gt h] at hp
    rcases List.mem_cons.1 hp with rfl | hp
    · exact h2 p (by simp)
    · exact ih h1 (fun z hz => h2 z (by simp [hz])) p hp
  · rw [joinL_eq h] at hp
    rcases List.mem_cons.1 hp with rfl | hp
    · have k1 := h1 x (by simp)
      have k2 := h2 y (by simp)
      exact ⟨k1.1, by simp only; omega⟩
    · exact ih (fun z hz => h1 z (by simp [hz])) (fun z hz => h2 z (by simp [hz])) p hp
theorem good_join {xs ys : List (Int × Int)} (h1 : Good xs) (h2 : Good ys) : Good (joinL xs ys) := ⟨joinL_sorted _ _ h1.1 h2.1, joinL_pos _ _ h1.2 h2.2⟩
/-- Shares are what they have of each fill. -/
theorem good_ext : ∀ {xs ys : List (Int × Int)}, Good xs → Good ys → (∀ f, amtOf f xs = amtOf f ys) → xs = ys
  | [], [], _, _, _ => rfl
  | [], y :: ys, _, hy, h => by
    have h1 := h y.1
    rw [amtOf_mem hy.1 (by simp), amtOf_nil] at h1
    have := (hy.2 y (by simp)).2
    omega
  | x :: xs, [], hx, _, h => by
    have h1 := h x.1
    rw [amtOf_mem hx.1 (by simp), amtOf_nil] at h1
    have := (hx.2 x (by simp)).2
    omega
  | x :: xs, y :: ys, hx, hy, h => by
    have sx := List.pairwise_cons.1 hx.1
    have sy := List.pairwise_cons.1 hy.1
    have px := (hx.2 x (by simp)).2
    have py := (hy.2 y (by simp)).2
    have e : x.1 = y.1 := by
      rcases Int.lt_trichotomy x.1 y.1 with k | k | k
      · have h1 := h x.1
        rw [amtOf_mem hx.1 (by simp), amtOf_none (xs := y :: ys) fun z hz => by
          rcases List.mem_cons.1 hz with rfl | hz
          · omega
          · have := sy.1 z hz; omega] at h1
        omega
      · exact k
      · have h1 := h y.1
        rw [amtOf_mem hy.1 (by simp), amtOf_none (xs := x :: xs) fun z hz => by
          rcases List.mem_cons.1 hz with rfl | hz
          · omega
          · have := sx.1 z hz; omega] at h1
        omega
    have e2 : x.2 = y.2 := by
      have h1 := h x.1
      rw [amtOf_mem hx.1 (by simp), e, amtOf_mem hy.1 (by simp)] at h1
      exact h1
    have ih := good_ext (xs := xs) (ys := ys) ⟨sx.2, fun z hz => hx.2 z (by simp [hz])⟩ ⟨sy.2, fun z hz => hy.2 z (by simp [hz])⟩ fun f => by
      have h1 := h f
      rw [amtOf_cons, amtOf_cons, e, e2] at h1
      omega
    rw [ih, show x = y from Prod.ext e e2]
theorem good_all {l : List LotT} (h : RightL l) : Good (joinAll l) := by
  have key : ∀ (l : List LotT) (acc : List (Int × Int)), (∀ x ∈ l, shareCheck x.2.2.2 = 0) → Good acc → Good (l.foldl (fun acc x => joinL acc x.2.2.2) acc) := fun l => by
    induction l with
    | nil => intro acc _ h; exact h
    | cons x l ih => intro acc h1 h2; exact ih _ (fun y hy => h1 y (by simp [hy])) (good_join h2 (good_right (h1 x (by simp))))
  exact key l [] (fun x hx => (h.all x hx).2.2.1) good_nil
/-- What lots have of a fill. -/
def amtAll (f : Int) (l : List LotT) : Int := (l.map fun x => amtOf f x.2.2.2).sum
theorem amtOf_all (f : Int) (l : List LotT) : amtOf f (joinAll l) = amtAll f l := by
  have key : ∀ (l : List LotT) (acc : List (Int × Int)), amtOf f (l.foldl (fun acc x => joinL acc x.2.2.2) acc) = amtOf f acc + amtAll f l := fun l => by
    induction l with
    | nil => intro acc; simp [amtAll]
    | cons x l ih =>
      intro acc
      rw [List.foldl_cons, ih, amtOf_join]
      simp only [amtAll, List.map_cons, List.sum_cons]
      omega
  have := key l []
  rw [amtOf_nil] at this
  unfold joinAll
  omega
theorem amtAll_append (f : Int) (a b : List LotT) : amtAll f (a ++ b) = amtAll f a + amtAll f b := by simp [amtAll]
theorem amtAll_reverse (f : Int) (l : List LotT) : amtAll f l.reverse = amtAll f l := by
  induction l with
  | nil => rfl
  | cons x l ih => rw [List.reverse_cons, amtAll_append, ih]; simp only [amtAll, List.map_cons, List.map_nil, List.sum_cons, List.sum_nil]; omega
theorem RightL.rev {l : List LotT} (h : RightL l) : RightL l.reverse := ⟨by rw [List.length_reverse]; exact h.len, fun x hx => h.all x (List.mem_reverse.1 hx)⟩
theorem RightL.drop {l : List LotT} (h : RightL l) (i : Nat) : RightL (l.drop i) := ⟨by have := h.len; rw [List.length_drop]; omega, fun x hx => h.all x (List.mem_of_mem_drop hx)⟩
theorem joinAll_reverse {l : List LotT} (h : RightL l) : joinAll l.reverse = joinAll l := good_ext (good_all h.rev) (good_all h) fun f => by rw [amtOf_all, amtOf_all, amtAll_reverse]
theorem joinAll_split {l : List LotT} (h : RightL l) (k : Nat) : joinL (joinAll (l.take k)) (joinAll (l.drop k)) = joinAll l := good_ext (good_join (good_all (h.take k)) (good_all (h.drop k))) (good_all h) fun f => by
  rw [amtOf_join, amtOf_all, amtOf_all, amtOf_all, ← amtAll_append, List.take_append_drop]
theorem sumL_append' : ∀ (a b : List (Int × Int)), sumL (a ++ b) = ((sumL a).1 + (sumL b).1, (sumL a).2 + (sumL b).2) := fun a b => by simp [sumL]
theorem liqs_split (l : List LotT) (k : Nat) : (sumL (liqs (l.take k))).1 + (sumL (liqs (l.drop k))).1 = (sumL (liqs l)).1 ∧ (sumL (liqs (l.take k))).2 + (sumL (liqs (l.drop k))).2 = (sumL (liqs l)).2 := by
  have := sumL_append' (liqs (l.take k)) (liqs (l.drop k))
  have e : liqs (l.take k) ++ liqs (l.drop k) = liqs l := by unfold liqs; rw [← List.map_append, List.take_append_drop]
  rw [e] at this
  rw [this]
  exact ⟨rfl, rfl⟩
theorem liqs_reverse (l : List LotT) : sumL (liqs l.reverse) = sumL (liqs l) := by
  unfold liqs sumL
  rw [List.map_reverse, List.map_reverse, List.map_reverse]
  have key : ∀ (l : List Int), l.reverse.sum = l.sum := fun l => by
    induction l with
    | nil => rfl
    | cons a l ih => rw [List.reverse_cons, List.sum_append, ih, List.sum_cons, List.sum_cons, List.sum_nil]; omega
  rw [key, key]
/-- The sums of right lots: not negative; no mass, no lot. -/
theorem liqs_pos {l : List LotT} (h : RightL l) : 0 ≤ (sumL (liqs l)).1 ∧ 0 ≤ (sumL (liqs l)).2 ∧ ((sumL (liqs l)).2 = 0 → l = []) := by
  have key : ∀ l : List LotT, (∀ x ∈ l, isPlain (x.2.1, x.2.2.1) = true ∧ x.2.2.1 ≠ 0) → 0 ≤ (sumL (liqs l)).1 ∧ 0 ≤ (sumL (liqs l)).2 ∧ ((sumL (liqs l)).2 = 0 → l = []) := fun l => by
    induction l with
    | nil => intro _; simp [sumL, liqs]
    | cons x l ih =>
      intro h
      have h1 := ih fun y hy => h y (by simp [hy])
      have h2 := h x (by simp)
      have h3 := isPlain_iff.1 h2.1
      simp only [sumL, liqs, List.map_cons, List.sum_cons, List.map_map] at h1 h3 ⊢
      refine ⟨by omega, by omega, fun h => by omega⟩
  exact key l fun x hx => ⟨(h.all x hx).1, (h.all x hx).2.1⟩
theorem lotErr_intro {l : List LotT} (hl : l.length ≤ 32) (h : ∀ i, i < l.length → lfault l i = 0) : lotErr l = 0 := by
  unfold lotErr
  rw [if_neg (by omega)]
  rcases first_cases (lfault l) l.length with ⟨_, e⟩ | ⟨m, hm, hne, _⟩
  · exact e
  · exact absurd (h m hm) hne
theorem lotErr_part {l : List LotT} (h : lotErr l = 0) (k : Nat) : lotErr (l.take k) = 0 ∧ lotErr (l.drop k) = 0 := by
  obtain ⟨h1, h2⟩ := lotErr_right h
  refine ⟨lotErr_intro (by rw [List.length_take]; omega) fun i hi => ?_, lotErr_intro (by rw [List.length_drop]; omega) fun i hi => ?_⟩
  · rw [List.length_take] at hi
    have e : ∀ j, j < k → atL (l.take k) j = atL l j := fun j hj => by unfold atL; rw [List.getElem?_take, if_pos hj]
    have := h2 i (by omega)
    unfold lfault at *
    rw [e i (by omega), e (i - 1) (by omega)]
    exact this
  · rw [List.length_drop] at hi
    have e : ∀ j, atL (l.drop k) j = atL l (k + j) := fun j => by unfold atL; rw [List.getElem?_drop]
    have := h2 (k + i) (by omega)
    unfold lfault at *
    rw [e i, e (i - 1)]
    by_cases h0 : 0 < i
    · rw [show k + i - 1 = k + (i - 1) by omega] at this
      by_cases hid : okId (atL l (k + i)).1 = true
      · rw [if_pos hid] at this ⊢
        by_cases hle : (atL l (k + i)).1 ≤ (atL l (k + (i - 1))).1
        · rw [if_pos ⟨by omega, hle⟩] at this; cases this
        · rw [if_neg (fun h => hle h.2)] at this
          rw [if_neg (fun h => hle h.2)]
          exact this
      · rw [if_neg hid] at this; cases this
    · by_cases hid : okId (atL l (k + i)).1 = true
      · rw [if_pos hid] at this ⊢
        rw [if_neg (fun h => h0 h.1)]
        split at this
        · cases this
        · exact this
      · rw [if_neg hid] at this; cases this
theorem joinL_length_ge (xs ys : List (Int × Int)) : xs.length ≤ (joinL xs ys).length ∧ ys.length ≤ (joinL xs ys).length := by
  refine joinL_cases (P := fun xs ys => xs.length ≤ (joinL xs ys).length ∧ ys.length ≤ (joinL xs ys).length) (fun ys => by rw [nil_joinL]; simp) (fun xs => by rw [joinL_nil]; simp) (fun x xs y ys h ih => ?_) (fun x xs y ys h ih => ?_) (fun x xs y ys h ih => ?_) _ xs ys (Nat.le_refl _)
  · rw [joinL_lt h]; simp only [List.length_cons] at ih ⊢; omega
  · rw [joinL_gt h]; simp only [List.length_cons] at ih ⊢; omega
  · rw [joinL_eq h]; simp only [List.length_cons] at ih ⊢; omega
/-- What is known where a vat can be made. -/
theorem vat_right {l : List LotT} {n : Int} (h : (vatOf l n).2 = 0) : lotErr l = 0 ∧ RightL l ∧ (joinAll l).length ≤ 32 ∧ isPlain (sumL (liqs l)) = true ∧ vatOf l n = ((n, (sumL (liqs l)).1, (sumL (liqs l)).2, joinAll l), 0) := by
  unfold vatOf at *
  by_cases he : lotErr l = 0
  · rw [if_pos he] at *
    by_cases hid : okId n = true
    · rw [if_pos hid] at *
      by_cases h32 : 32 < (joinAll l).length
      · rw [if_pos h32] at h; cases h
      · rw [if_neg h32] at *
        by_cases hp : isPlain (sumL (liqs l)) = true
        · rw [if_pos hp]; exact ⟨he, rightL_of he, by omega, hp, rfl⟩
        · rw [if_neg hp] at h; cases h
    · rw [if_neg hid] at h; cases h
  · rw [if_neg he] at h; cases h
theorem vat_bad {l : List LotT} {n : Int} (h : (vatOf l n).2 ≠ 0) : (vatOf l n).1 = (0, 0, 0, []) := by
  unfold vatOf at *
  split
  · rename_i he
    rw [if_pos he] at h
    split
    · rename_i hid
      rw [if_pos hid] at h
      split
      · rfl
      · rename_i h32
        rw [if_neg h32] at h
        split
        · rename_i hp
          rw [if_pos hp] at h
          exact absurd rfl h
        · rfl
    · rfl
  · rfl
theorem vat_intro {l : List LotT} {n : Int} (he : lotErr l = 0) (hid : okId n = true) (h32 : (joinAll l).length ≤ 32) (hp : isPlain (sumL (liqs l)) = true) : vatOf l n = ((n, (sumL (liqs l)).1, (sumL (liqs l)).2, joinAll l), 0) := by
  unfold vatOf
  rw [if_pos he, if_pos hid, if_neg (by omega), if_pos hp]
/-- In another order. -/
theorem vat_turned {l : List LotT} (h : (vatOf l 1).2 = 0) : vatOf (renTo l.reverse l.reverse.length) 1 = vatOf l 1 := by
  obtain ⟨he, hr, h32, hp, e⟩ := vat_right h
  have hren := joinAll_ren l.reverse l.reverse.length
  rw [e, vat_intro (vat_renumbered (n := 0) (by rw [List.length_reverse]; exact hr.len) fun x hx => (lotErr_mem he x (List.mem_reverse.1 hx)).2) (by decide) (by rw [hren.1, joinAll_reverse hr]; exact h32) (by rw [hren.2, liqs_reverse]; exact hp), hren.1, hren.2, joinAll_reverse hr, liqs_reverse]
def keepP (l : List LotT) : List LotT := l.filter fun y => decide (0 < y.2.2.1)
theorem keepP_two {a b : LotT} : keepP [a, b] = (if 0 < a.2.2.1 then [a] else []) ++ (if 0 < b.2.2.1 then [b] else []) := by
  unfold keepP
  by_cases h1 : 0 < a.2.2.1
  · by_cases h2 : 0 < b.2.2.1 <;> simp [h1, h2]
  · by_cases h2 : 0 < b.2.2.1 <;> simp [h1, h2]
/-- A lot made of right lots has no fault. -/
theorem vat_one {l : List LotT} {n : Int} (hr : RightL l) (h32 : (joinAll l).length ≤ 32) (hp : isPlain (sumL (liqs l)) = true) (h0 : 0 < (sumL (liqs l)).2) : oneOf ((n, (sumL (liqs l)).1, (sumL (liqs l)).2, joinAll l) : LotT) = 0 := by
  have hf := joinAll_facts hr l.length (Nat.le_refl _)
  rw [List.take_length] at hf
  obtain ⟨f1, f2, f3, f4⟩ := hf
  have hg := good_all hr
  have hb := isPlain_iff.1 hp
  refine oneOf_intro hp (by simp only; omega) (shareCheck_intro h32 (fun x hx => ?_) f1 (by simp only; omega)) f4
  have h1 := okId_iff.1 (hg.2 x hx).1
  have h2 := (hg.2 x hx).2
  have h3 := mem_le_sum (xs := amts (joinAll l)) (x := x.2) (fun y hy => by
    obtain ⟨z, hz, rfl⟩ := List.mem_map.1 hy
    exact (f3 z hz).1) (List.mem_map.2 ⟨x, hx, rfl⟩)
  have h4 : (amts (joinAll l)).sum = sumA (joinAll l) := rfl
  exact okS_iff.2 (by omega)
/-- In groups. -/
theorem vat_groups {l : List LotT} {k : Nat} (h : (vatOf l 1).2 = 0) : (vatOf (l.take k) 1).2 = 0 ∧ (vatOf (l.drop k) 2).2 = 0 ∧ vatOf (keepP [(vatOf (l.take k) 1).1, (vatOf (l.drop k) 2).1]) 1 = vatOf l 1 := by
  obtain ⟨he, hr, h32, hp, e⟩ := vat_right h
  have hs := joinAll_split hr k
  have hl := liqs_split l k
  have hge := joinL_length_ge (joinAll (l.take k)) (joinAll (l.drop k))
  rw [hs] at hge
  have p1 := liqs_pos (hr.take k)
  have p2 := liqs_pos (hr.drop k)
  have hb := isPlain_iff.1 hp
  have hpe := lotErr_part he k
  have z1 : (sumL (liqs (l.take k))).2 = 0 → (sumL (liqs (l.take k))).1 = 0 ∧ joinAll (l.take k) = [] := fun h => by rw [p1.2.2 h]; exact ⟨rfl, rfl⟩
  have z2 : (sumL (liqs (l.drop k))).2 = 0 → (sumL (liqs (l.drop k))).1 = 0 ∧ joinAll (l.drop k) = [] := fun h => by rw [p2.2.2 h]; exact ⟨rfl, rfl⟩
  have i1 : isPlain (sumL (liqs (l.take k))) = true := isPlain_iff.2 (by
    by_cases h0 : (sumL (liqs (l.take k))).2 = 0
    · have := (z1 h0).1; omega
    · omega)
  have i2 : isPlain (sumL (liqs (l.drop k))) = true := isPlain_iff.2 (by
    by_cases h0 : (sumL (liqs (l.drop k))).2 = 0
    · have := (z2 h0).1; omega
    · omega)
  have e1 := vat_intro (n := 1) hpe.1 (by decide) (by omega) i1
  have e2 := vat_intro (n := 2) hpe.2 (by decide) (by omega) i2
  have o1 := vat_one (n := 1) (hr.take k) (by omega) i1
  have o2 := vat_one (n := 2) (hr.drop k) (by omega) i2
  rw [e1, e2, e]
  refine ⟨rfl, rfl, ?_⟩
  simp only
  generalize (sumL (liqs (l.take k))) = s1 at *
  generalize (sumL (liqs (l.drop k))) = s2 at *
  generalize joinAll (l.take k) = J1 at *
  generalize joinAll (l.drop k) = J2 at *
  generalize hS : sumL (liqs l) = S at *
  generalize joinAll l = J at *
  obtain ⟨A1, M1⟩ := s1
  obtain ⟨A2, M2⟩ := s2
  obtain ⟨A, M⟩ := S
  simp only at p1 p2 z1 z2 o1 o2 hb hl
  have k1 : okId 1 = true := by decide
  have k2 : okId 2 = true := by decide
  rw [keepP_two]
  simp only
  by_cases c1 : 0 < M1
  · by_cases c2 : 0 < M2
    · rw [if_pos c1, if_pos c2]
      have ha : lotErr [((1, A1, M1, J1) : LotT), (2, A2, M2, J2)] = 0 := lotErr_intro (by simp) fun i hi => by
        obtain rfl | rfl : i = 0 ∨ i = 1 := by simp only [List.length_cons, List.length_nil] at hi; omega
        · have e0 : atL [((1, A1, M1, J1) : LotT), (2, A2, M2, J2)] 0 = (1, A1, M1, J1) := rfl
          unfold lfault
          rw [e0, if_pos (show okId ((1, A1, M1, J1) : LotT).1 = true from k1), if_neg (show ¬ ((0 : Nat) < 0 ∧ _) by omega), o1 c1]
        · have e0 : atL [((1, A1, M1, J1) : LotT), (2, A2, M2, J2)] 1 = (2, A2, M2, J2) := rfl
          have e1 : atL [((1, A1, M1, J1) : LotT), (2, A2, M2, J2)] (1 - 1) = (1, A1, M1, J1) := rfl
          unfold lfault
          rw [e0, e1, if_pos (show okId ((2, A2, M2, J2) : LotT).1 = true from k2), if_neg (fun h => by have := h.2; simp only at this; omega), o2 c2]
      have hJ : joinAll [((1, A1, M1, J1) : LotT), (2, A2, M2, J2)] = J := by simp only [joinAll, List.foldl_cons, List.foldl_nil, nil_joinL, hs]
      have hL : sumL (liqs [((1, A1, M1, J1) : LotT), (2, A2, M2, J2)]) = (A, M) := by simp only [liqs, sumL, List.map_cons, List.map_nil, List.sum_cons, List.sum_nil, Int.add_zero, hl.1, hl.2]
      show vatOf [((1, A1, M1, J1) : LotT), (2, A2, M2, J2)] 1 = _
      rw [vat_intro ha (by decide) (by rw [hJ]; exact h32) (by rw [hL]; exact hp), hJ, hL]
    · obtain ⟨y1, y2⟩ := z2 (by omega)
      rw [if_pos c1, if_neg c2, List.append_nil]
      rw [y2, joinL_nil] at hs
      have ha : lotErr [((1, A1, M1, J1) : LotT)] = 0 := by rw [lotErr_one, if_pos (show okId ((1, A1, M1, J1) : LotT).1 = true from k1), o1 c1]
      have hJ : joinAll [((1, A1, M1, J1) : LotT)] = J := by simp only [joinAll, List.foldl_cons, List.foldl_nil, nil_joinL, hs]
      have hL : sumL (liqs [((1, A1, M1, J1) : LotT)]) = (A, M) := by
        simp only [liqs, sumL, List.map_cons, List.map_nil, List.sum_cons, List.sum_nil, Int.add_zero, Prod.mk.injEq]; omega
      rw [vat_intro ha (by decide) (by rw [hJ]; exact h32) (by rw [hL]; exact hp), hJ, hL]
  · obtain ⟨y1, y2⟩ := z1 (by omega)
    rw [if_neg c1, List.nil_append]
    rw [y2, nil_joinL] at hs
    by_cases c2 : 0 < M2
    · rw [if_pos c2]
      have ha : lotErr [((2, A2, M2, J2) : LotT)] = 0 := by rw [lotErr_one, if_pos (show okId ((2, A2, M2, J2) : LotT).1 = true from k2), o2 c2]
      have hJ : joinAll [((2, A2, M2, J2) : LotT)] = J := by simp only [joinAll, List.foldl_cons, List.foldl_nil, nil_joinL, hs]
      have hL : sumL (liqs [((2, A2, M2, J2) : LotT)]) = (A, M) := by
        simp only [liqs, sumL, List.map_cons, List.map_nil, List.sum_cons, List.sum_nil, Int.add_zero, Prod.mk.injEq]; omega
      rw [vat_intro ha (by decide) (by rw [hJ]; exact h32) (by rw [hL]; exact hp), hJ, hL]
    · obtain ⟨w1, w2⟩ := z2 (by omega)
      rw [if_neg c2]
      have hJ : joinAll ([] : List LotT) = J := by rw [← hs, w2]; rfl
      have hL : sumL (liqs []) = (A, M) := by
        simp only [liqs, sumL, List.map_nil, List.sum_nil, Prod.mk.injEq]; omega
      rw [vat_intro (by decide) (by decide) (by rw [hJ]; exact h32) (by rw [hL]; exact hp), hJ, hL]
end Go.Proofs.Ytbcpdecgfdlaaaa
/- Copies of lots, lots turned, lot.Of and lot.Total. Conditions: those of each law. -/
namespace Go.Proofs.Ytbcpdecgfdlaaaa
open Go Go.Proofs.Ytbcpdecgfdlaaaa.Ev
set_option linter.unusedVariables false
set_option linter.unusedSimpArgs false
set_option maxRecDepth 100000
set_option maxHeartbeats 4000000
theorem append_all {sl : List Slot} {xs : List (Int × Int)} (hl : xs.length ≤ 2 ^ 30) : ∃ s ext o, appendS (hL sl) none 2 16 ⟨.lp true [] 0, 0, 0, false⟩ (cellsL j2 xs) xs.length = some (s, hL (sl ++ ext)) ∧ Acc (sl ++ ext) j2 xs s o ∧ ∀ id, o = some id → sl.length ≤ id := by
  by_cases h0 : xs.length = 0
  · have : xs = [] := List.eq_nil_of_length_eq_zero h0
    subst this
    refine ⟨⟨.lp true [] 0, 0, 0, false⟩, [], none, ?_, Acc.nil', fun _ h => by cases h⟩
    rw [List.append_nil]
    rfl
  · refine ⟨ownSV sl.length j2 xs.length, [.own (cellsL j2 xs) 2], some sl.length, ?_, ⟨by omega, rfl, by simp⟩, fun id h => by cases h; exact Nat.le_refl _⟩
    simp only [appendS, appendV, newAt]
    rw [if_neg h0, guardO_pos ⟨by unfold roomCells; omega, by omega⟩, if_pos ⟨trivial, trivial, trivial⟩, hL_new, hL_next]
    rfl
theorem Copy_ok (x : LotT) (hl : x.2.2.2.length ≤ 2 ^ 30) : spileref22_CopyP x = some x := by
  obtain ⟨d, a, m, xs⟩ := x
  simp only at hl
  unfold spileref22_CopyP spileref22_Copy
  simp -implicitDefEqProofs only [evs, reduceIte, rdRes, rdTT, rdTy, rdLT, Res.un, TT.un, Ty.un, LT.un, Leaf.un, Leaf.plain, LT.plain, hL_empty, hL_new, hL_next, List.nil_append, List.length_nil, List.length_cons, Nat.zero_add, List.cons_append]
  have e0 : [cL (d, a, m, rowSV false j2 xs), cL nilL][0]? = some (cL (d, a, m, rowSV false j2 xs)) := rfl
  have r0 := rd_cL e0
  simp only [cL, rowSV_len, rowSV_cap, rowSV_tail] at r0
  rw [r0.2.2.2]
  simp -implicitDefEqProofs only [evs, reduceIte, rdRes, rdTT, rdTy, rdLT, Res.un, TT.un, Ty.un, LT.un, Leaf.un, Leaf.plain, LT.plain]
  rw [cells_of (f := false) (xs := xs)]
  simp -implicitDefEqProofs only [evs, reduceIte, rdRes, rdTT, rdTy, rdLT, Res.un, TT.un, Ty.un, LT.un, Leaf.un, Leaf.plain, LT.plain]
  obtain ⟨s, ext, o, k1, k2, k3⟩ := append_all (sl := [cL (d, a, m, rowSV false j2 xs), cL nilL]) hl
  have f0 : ([cL (d, a, m, rowSV false j2 xs), cL nilL] ++ ext)[0]? = some (cL (d, a, m, rowSV false j2 xs)) := rfl
  have f1 : ([cL (d, a, m, rowSV false j2 xs), cL nilL] ++ ext)[1]? = some (cL nilL) := rfl
  have w0 := (wr_cL f0).1 s
  have g0 : (([cL (d, a, m, rowSV false j2 xs), cL nilL] ++ ext).set 0 (cL (d, a, m, s)))[0]? = some (cL (d, a, m, s)) := rfl
  have g1 : (([cL (d, a, m, rowSV false j2 xs), cL nilL] ++ ext).set 0 (cL (d, a, m, s)))[1]? = some (cL nilL) := rfl
  have w1 := wrs_cL (y := (d, a, m, s)) g1
  have q0 := rds_cL g0
  have h1 : ((([cL (d, a, m, rowSV false j2 xs), cL nilL] ++ ext).set 0 (cL (d, a, m, s))).set 1 (cL (d, a, m, s)))[1]? = some (cL (d, a, m, s)) := rfl
  have q1 := rds_cL h1
  have hacc : Acc ((([cL (d, a, m, rowSV false j2 xs), cL nilL] ++ ext).set 0 (cL (d, a, m, s))).set 1 (cL (d, a, m, s))) j2 xs s o := k2.frame fun id hid => by
    have := k3 id hid
    simp only [List.length_cons, List.length_nil] at this
    rw [List.getElem?_set_ne (by omega), List.getElem?_set_ne (by omega)]
  simp only [cL, rowSV_len, rowSV_cap, rowSV_tail] at k1 w0 w1 q0 q1
  rw [k1]
  simp -implicitDefEqProofs only [evs, reduceIte, rdRes, rdTT, rdTy, rdLT, Res.un, TT.un, Ty.un, LT.un, Leaf.un, Leaf.plain, LT.plain]
  rw [w0]
  simp -implicitDefEqProofs only [evs, reduceIte, rdRes, rdTT, rdTy, rdLT, Res.un, TT.un, Ty.un, LT.un, Leaf.un, Leaf.plain, LT.plain]
  rw [q0]
  simp -implicitDefEqProofs only [evs, reduceIte, rdRes, rdTT, rdTy, rdLT, Res.un, TT.un, Ty.un, LT.un, Leaf.un, Leaf.plain, LT.plain]
  rw [w1]
  simp -implicitDefEqProofs only [evs, reduceIte, rdRes, rdTT, rdTy, rdLT, Res.un, TT.un, Ty.un, LT.un, Leaf.un, Leaf.plain, LT.plain]
  rw [q1]
  simp -implicitDefEqProofs only [evs, reduceIte, rdRes, rdTT, rdTy, rdLT, Res.un, TT.un, Ty.un, LT.un, Leaf.un, Leaf.plain, LT.plain]
  have hread := hacc.read (lp := false) rfl
  simp only [cL, rowSV_len, rowSV_cap, rowSV_tail] at hread
  rw [hread]
  simp -implicitDefEqProofs only [evs, reduceIte, rdRes, rdTT, rdTy, rdLT, Res.un, TT.un, Ty.un, LT.un, Leaf.un, Leaf.plain, LT.plain]
theorem take_lot {l : List LotT} {i : Nat} (h : i < l.length) : l.take (i + 1) = l.take i ++ [atL l i] := by
  obtain ⟨hi, he⟩ := List.getElem?_eq_some_iff.1 (atL_some h)
  rw [← List.take_append_getElem hi, he]
theorem CopyAll_ok {l : List LotT} {sl : List Slot} (hl : l.length ≤ 64) (hs : ∀ x ∈ l, x.2.2.2.length ≤ 64) : ∃ s sl' o, spileref22_CopyAll (rowSV false jL l) (hL sl) = some (s, hL sl') ∧ Acc sl' jL l s o ∧ (∀ id, o = some id → sl.length ≤ id) ∧ sl.length ≤ sl'.length ∧ ∀ j, j < sl.length → sl'[j]? = sl[j]? := by
  obtain ⟨x, h1, s, sl', o, rfl, h2, h3, h4, h5⟩ := iter_upto (f := spileref22_CopyAll.loop1 (rowSV false jL l)) (fun i st => ∃ s sl' o, st = ((s, (i : Int)), hL sl') ∧ Acc sl' jL (l.take i) s o ∧ (∀ id, o = some id → sl.length ≤ id) ∧ sl.length ≤ sl'.length ∧ ∀ j, j < sl.length → sl'[j]? = sl[j]?)
    (fun x => ∃ s sl' o, x = (.ex0 s, hL sl') ∧ Acc sl' jL l s o ∧ (∀ id, o = some id → sl.length ≤ id) ∧ sl.length ≤ sl'.length ∧ ∀ j, j < sl.length → sl'[j]? = sl[j]?) l.length (fun i st hi hst => by
      obtain ⟨s, sl', o, rfl, hacc, ho, hlen, hsame⟩ := hst
      have hg1 : 0 ≤ (i : Int) ∧ (i : Int) < (l.length : Int) := by omega
      have hx := atL_some hi
      have hm := hs _ (atL_mem hi)
      have htk := take_lot hi
      generalize atL l i = x at *
      obtain ⟨d, a, m, xs⟩ := x
      simp only at hm
      obtain ⟨s', sl2, id, k1, k2, k3, k4, k5⟩ := hacc.append (b := 48) (w := 4) (x := ((d, a, m, xs) : LotT)) (vs := [.int .i64 d, .int .i64 a, .int .i64 m, .slice (rowSV true j2 xs).a xs.length xs.length true]) rfl (by omega) (by rw [List.length_take]; omega) (by omega) rfl
      refine ⟨((s', ((i + 1 : Nat) : Int)), hL sl2), ?_, s', sl2, some id, rfl, by rw [htk]; exact k2, fun id' h' => ?_, by omega, fun j hj => ?_⟩
      · unfold spileref22_CopyAll.loop1
        simp -implicitDefEqProofs only [Int.toNat_natCast, rowSV_len, guardO_pos hg1]
        rw [decide_eq_true hg1.2, cond_true, rd_lot hx]
        simp -implicitDefEqProofs only [evs, reduceIte, rdRes, rdTT, rdTy, rdLT, Res.un, TT.un, Ty.un, LT.un, Leaf.un, Leaf.plain, LT.plain]
        rw [Copy_ok (d, a, m, xs) (by simp only; omega)]
        simp -implicitDefEqProofs only [evs, reduceIte, rdRes, rdTT, rdTy, rdLT, Res.un, TT.un, Ty.un, LT.un, Leaf.un, Leaf.plain, LT.plain]
        rw [k1]
        simp -implicitDefEqProofs only [evs, reduceIte, rdRes, rdTT, rdTy, rdLT, Res.un, TT.un, Ty.un, LT.un, Leaf.un, Leaf.plain, LT.plain]
        rw [i64_succ (by omega)]
      · cases h'
        rcases k3 with k3 | ⟨_, k3⟩
        · exact ho _ k3
        · omega
      · rw [k5 j (fun e => by have := ho j e; omega) (by omega), hsame j hj]) (fun st hst => by
      obtain ⟨s, sl', o, rfl, hacc, ho, hlen, hsame⟩ := hst
      rw [List.take_length] at hacc
      refine ⟨_, ?_, s, sl', o, rfl, hacc, ho, hlen, hsame⟩
      unfold spileref22_CopyAll.loop1
      simp -implicitDefEqProofs only [rowSV_len]
      rw [decide_eq_false (by omega), cond_false]) FUEL 0 ((⟨.lp true [] 0, 0, 0, false⟩, 0), hL sl) (by omega) ⟨_, sl, none, rfl, by rw [List.take_zero]; exact Acc.nil', fun _ h => (by cases h), Nat.le_refl _, fun _ _ => rfl⟩ (by have := fuel_gt (n := l.length) (by omega); omega)
  refine ⟨s, sl', o, ?_, h2, h3, h4, h5⟩
  unfold spileref22_CopyAll
  rw [h1]
  rfl
/-- Lots of which the first and the last k are turned. -/
def turnL (ls : List LotT) (k : Nat) : List LotT := (List.range ls.length).map fun p => if p < k ∨ ls.length ≤ p + k then atL ls (ls.length - 1 - p) else atL ls p
theorem turnL_length {ls : List LotT} {k : Nat} : (turnL ls k).length = ls.length := by simp [turnL]
theorem turnL_get {ls : List LotT} {k p : Nat} (h : p < ls.length) : (turnL ls k)[p]? = some (if p < k ∨ ls.length ≤ p + k then atL ls (ls.length - 1 - p) else atL ls p) := by
  unfold turnL
  rw [List.getElem?_map, List.getElem?_range h]
  rfl
theorem turnL_zero {ls : List LotT} : turnL ls 0 = ls := by
  refine List.ext_getElem? fun p => ?_
  by_cases h : p < ls.length
  · rw [turnL_get h, if_neg (by omega), atL_some h]
  · rw [List.getElem?_eq_none (by rw [turnL_length]; omega), List.getElem?_eq_none (by omega)]
theorem turnL_succ {ls : List LotT} {k : Nat} (h : k < ls.length - 1 - k) : ((turnL ls k).set k (atL ls (ls.length - 1 - k))).set (ls.length - 1 - k) (atL ls k) = turnL ls (k + 1) := by
  refine List.ext_getElem? fun p => ?_
  by_cases hp : p < ls.length
  · rw [turnL_get hp, List.getElem?_set, List.getElem?_set, turnL_get hp]
    simp only [List.length_set, turnL_length]
    by_cases h1 : ls.length - 1 - k = p
    · rw [if_pos h1, if_pos (by omega), if_pos (by omega), show ls.length - 1 - p = k by omega]
    · rw [if_neg h1]
      by_cases h2 : k = p
      · rw [if_pos h2, if_pos (by omega), if_pos (by omega), h2]
      · rw [if_neg h2]
        by_cases h3 : p < k ∨ ls.length ≤ p + k
        · rw [if_pos h3, if_pos (by omega)]
        · rw [if_neg h3, if_neg (by omega)]
  · rw [List.getElem?_eq_none (by rw [List.length_set, List.length_set, turnL_length]; omega), List.getElem?_eq_none (by rw [turnL_length]; omega)]
theorem turnL_end {ls : List LotT} {k : Nat} (h : ls.length ≤ 2 * k + 1) : turnL ls k = ls.reverse := by
  refine List.ext_getElem? fun p => ?_
  by_cases hp : p < ls.length
  · rw [turnL_get hp, List.getElem?_reverse hp, atL_some (l := ls) (i := ls.length - 1 - p) (by omega)]
    by_cases h3 : p < k ∨ ls.length ≤ p + k
    · rw [if_pos h3]
    · rw [if_neg h3, show ls.length - 1 - p = p by omega]
  · rw [List.getElem?_eq_none (by rw [turnL_length]; omega), List.getElem?_eq_none (by rw [List.length_reverse]; omega)]
theorem Acc.getL {sl : List Slot} {l : List LotT} {s : SV} {o : Option Nat} {i : Nat} {x : LotT} (h : Acc sl jL l s o) (hx : l[i]? = some x) : rdT (.agg [.int .i64, .int .i64, .int .i64, .slice]) (hL sl) (V.add s.a (i * 4)) = some (lotSV true x) := by
  cases o with
  | none => obtain ⟨rfl, _⟩ := h; cases hx
  | some id =>
    obtain ⟨h1, rfl, h3⟩ := h
    simp only [ownSV, V.add, Nat.zero_add]
    rw [rds_ownL (ls := jL) (xs := l) (w := 4) (ms := [.int .i64, .int .i64, .int .i64, .slice]) h3 rfl rfl rfl (by omega), hx]
    rfl
theorem Acc.setL {sl : List Slot} {l : List LotT} {s : SV} {o : Option Nat} {i : Nat} {x : LotT} (h : Acc sl jL l s o) (hi : i < l.length) : ∃ sl', H.wrs (hL sl) (V.add s.a (i * 4)) [.int .i64 x.1, .int .i64 x.2.1, .int .i64 x.2.2.1, .slice (rowSV true j2 x.2.2.2).a x.2.2.2.length x.2.2.2.length true] = some (hL sl') ∧ Acc sl' jL (l.set i x) s o ∧ sl'.length = sl.length ∧ ∀ j, o ≠ some j → sl'[j]? = sl[j]? := by
  cases o with
  | none => obtain ⟨rfl, _⟩ := h; simp at hi
  | some id =>
    obtain ⟨h1, rfl, h3⟩ := h
    have hid := (List.getElem?_eq_some_iff.1 h3).1
    refine ⟨sl.set id (.own (cellsL jL (l.set i x)) 4), ?_, ⟨by simp; omega, ?_, ?_⟩, by simp, fun j hj => ?_⟩
    · simp only [ownSV, V.add, Nat.zero_add]
      exact wrs_ownL (ls := jL) (xs := l) (n := l.length * jL.length) (i := i) (w := 4) (x := x) (e := 4) (vs := [.int .i64 x.1, .int .i64 x.2.1, .int .i64 x.2.2.1, .slice (rowSV true j2 x.2.2.2).a x.2.2.2.length x.2.2.2.length true]) h3 rfl rfl hi rfl
    · simp only [ownSV, List.length_set]
    · rw [List.getElem?_set_self hid]
      rfl
    · rw [List.getElem?_set_ne (fun e => hj (by rw [e]))]
theorem ReverseL_ok {sl : List Slot} {l : List LotT} {s : SV} {o : Option Nat} (hacc : Acc sl jL l s o) (hl : l.length < 2 ^ 62) : ∃ sl', slices_Reverse_api_Lot_api_Lot s (hL sl) = some ((), hL sl') ∧ Acc sl' jL l.reverse s o ∧ sl'.length = sl.length ∧ ∀ j, o ≠ some j → sl'[j]? = sl[j]? := by
  have hsl := hacc.len
  obtain ⟨x, h1, sl', rfl, h2, h3, h4⟩ := iter_inv (f := slices_Reverse_api_Lot_api_Lot.loop1 s) (Inv := fun st => ∃ (k : Nat) (sl' : List Slot), st = (((k : Int), (l.length : Int) - 1 - k), hL sl') ∧ 2 * k ≤ l.length + 1 ∧ Acc sl' jL (turnL l k) s o ∧ sl'.length = sl.length ∧ ∀ j, o ≠ some j → sl'[j]? = sl[j]?)
    (Post := fun x => ∃ sl', x = (.ex0 (), hL sl') ∧ Acc sl' jL l.reverse s o ∧ sl'.length = sl.length ∧ ∀ j, o ≠ some j → sl'[j]? = sl[j]?) (fun st => l.length - st.1.1.toNat) (fun st hst => by
      obtain ⟨k, sl', rfl, hk2, ha, hlen, hsame⟩ := hst
      by_cases hk : (k : Int) < (l.length : Int) - 1 - k
      · have ex : (l.length : Int) - 1 - (k : Int) = ((l.length - 1 - k : Nat) : Int) := by omega
        have t1 := turnL_get (ls := l) (k := k) (p := l.length - 1 - k) (by omega)
        have t2 := turnL_get (ls := l) (k := k) (p := k) (by omega)
        rw [if_neg (by omega)] at t1 t2
        have r1 := Acc.getL ha t1
        have r2 := Acc.getL ha t2
        obtain ⟨sl1, a1, a2, a3, a4⟩ := Acc.setL (x := atL l (l.length - 1 - k)) ha (show k < (turnL l k).length by rw [turnL_length]; omega)
        obtain ⟨sl2, b1, b2, b3, b4⟩ := Acc.setL (i := l.length - 1 - k) (x := atL l k) a2 (by rw [List.length_set, turnL_length]; omega)
        rw [turnL_succ (by omega)] at b2
        have hg1 : (0 : Int) ≤ ((l.length - 1 - k : Nat) : Int) ∧ ((l.length - 1 - k : Nat) : Int) < (l.length : Int) := by omega
        have hg2 : (0 : Int) ≤ (k : Int) ∧ (k : Int) < (l.length : Int) := by omega
        refine .inl ⟨((((k + 1 : Nat) : Int), (l.length : Int) - 1 - ((k + 1 : Nat) : Int)), hL sl2), ?_, ⟨k + 1, sl2, rfl, by omega, b2, by omega, fun j hj => by rw [b4 j hj, a4 j hj, hsame j hj]⟩, by simp only [Int.toNat_natCast]; omega⟩
        unfold slices_Reverse_api_Lot_api_Lot.loop1
        simp -implicitDefEqProofs only [ex, hsl, Int.toNat_natCast, reserve0, guardO_pos hg1, guardO_pos hg2]
        rw [decide_eq_true (by omega), cond_true, r1]
        simp -implicitDefEqProofs only [Option.bind_some]
        rw [r2]
        simp -implicitDefEqProofs only [Option.bind_some]
        rw [show H.wrs (hL sl') (s.a.add (k * 4)) [V.int .i64 (atL l (l.length - 1 - k)).1, V.int .i64 (atL l (l.length - 1 - k)).2.1, V.int .i64 (atL l (l.length - 1 - k)).2.2.1, V.slice (rowSV true j2 (atL l (l.length - 1 - k)).2.2.2).a (rowSV true j2 (atL l (l.length - 1 - k)).2.2.2).len (rowSV true j2 (atL l (l.length - 1 - k)).2.2.2).cap (rowSV true j2 (atL l (l.length - 1 - k)).2.2.2).tail] = _ from a1]
        simp -implicitDefEqProofs only [Option.bind_some]
        rw [show H.wrs (hL sl1) (s.a.add ((l.length - 1 - k) * 4)) [V.int .i64 (atL l k).1, V.int .i64 (atL l k).2.1, V.int .i64 (atL l k).2.2.1, V.slice (rowSV true j2 (atL l k).2.2.2).a (rowSV true j2 (atL l k).2.2.2).len (rowSV true j2 (atL l k).2.2.2).cap (rowSV true j2 (atL l k).2.2.2).tail] = _ from b1]
        simp -implicitDefEqProofs only [Option.bind_some]
        rw [i64_succ (by omega), i64_in _ (by omega), show ((l.length - 1 - k : Nat) : Int) - 1 = (l.length : Int) - 1 - ((k + 1 : Nat) : Int) by omega]
      · refine .inr ⟨(.ex0 (), hL sl'), ?_, sl', rfl, by rw [← turnL_end (k := k) (by omega)]; exact ha, hlen, hsame⟩
        unfold slices_Reverse_api_Lot_api_Lot.loop1
        simp -implicitDefEqProofs only [evs, reduceIte, rdRes, rdTT, rdTy, rdLT, Res.un, TT.un, Ty.un, LT.un, Leaf.un, Leaf.plain, LT.plain]
        rw [decide_eq_false hk, cond_false]) FUEL ((0, (l.length : Int) - 1), hL sl) ⟨0, sl, by simp, by omega, by rw [turnL_zero]; exact hacc, rfl, fun _ _ => rfl⟩ (by have := fuel_gt (n := l.length) (by omega); simp only; omega)
  refine ⟨sl', ?_, h2, h3, h4⟩
  unfold slices_Reverse_api_Lot_api_Lot
  rw [hsl, i64_in _ (by omega), h1]
  rfl
/-! Of and Total -/
theorem LRight_ok (l : List LotT) (hl : l.length < 2 ^ 62) : lot_rightP l = some (decide (lotErr l = 0)) := by
  obtain ⟨j, hj⟩ := LCheck_ok l hl
  unfold lot_rightP lot_right
  simp -implicitDefEqProofs only [evs, reduceIte, rdRes, rdTT, rdTy, rdLT, Res.un, TT.un, Ty.un, LT.un, Leaf.un, Leaf.plain, LT.plain, rdRow_argL]
  rw [hj]
  simp -implicitDefEqProofs only [evs, reduceIte, rdRes, rdTT, rdTy, rdLT, Res.un, TT.un, Ty.un, LT.un, Leaf.un, Leaf.plain, LT.plain]
theorem amtOf_take {f : Int} {xs : List (Int × Int)} {i : Nat} (h : i < xs.length) : amtOf f (xs.take (i + 1)) = amtOf f (xs.take i) + (if (at2 xs i).1 = f then (at2 xs i).2 else 0) := by
  obtain ⟨hi, he⟩ := List.getElem?_eq_some_iff.1 (at2_some h)
  rw [← List.take_append_getElem hi, he, amtOf_append, amtOf_cons, amtOf_nil]
  omega
theorem amtAll_take {f : Int} {l : List LotT} {i : Nat} (h : i < l.length) : amtAll f (l.take (i + 1)) = amtAll f (l.take i) + amtOf f (atL l i).2.2.2 := by
  rw [take_lot h, amtAll_append]
  simp [amtAll]
theorem of_loop1 {f y : Int} {xs : List (Int × Int)} {sl : List Slot} {t : Bool} (hl : xs.length ≤ 64) (hx : ∀ x ∈ xs, 0 ≤ x.2 ∧ x.2 ≤ 1000000000000000) (hy : 0 ≤ y ∧ y ≤ 4000000000000000000) : ∃ sl', iter FUEL (lot_Of.loop1 f (rowSV t j2 xs)) ((y, 0), hL sl) = some (.ex0 (y + amtOf f xs), hL sl') := by
  obtain ⟨x, h1, sl', rfl⟩ := iter_upto (f := lot_Of.loop1 f (rowSV t j2 xs)) (fun i st => ∃ sl', st = ((y + amtOf f (xs.take i), (i : Int)), hL sl')) (fun x => ∃ sl', x = (.ex0 (y + amtOf f xs), hL sl')) xs.length (fun i st hi hst => by
    obtain ⟨sl', rfl⟩ := hst
    have hg1 : 0 ≤ (i : Int) ∧ (i : Int) < (xs.length : Int) := by omega
    have hrow : (sl' ++ [c2 (at2 xs i)])[sl'.length]? = some (c2 (at2 xs i)) := by simp
    have r1 := rd_c2 hrow
    have hb := amtOf_bound f (xs.take i) fun z hz => hx z (List.mem_of_mem_take hz)
    rw [List.length_take, Nat.min_eq_left (by omega)] at hb
    have hxi := hx _ (at2_mem hi)
    refine ⟨((y + amtOf f (xs.take (i + 1)), ((i + 1 : Nat) : Int)), hL (sl' ++ [c2 (at2 xs i)])), ?_, _, rfl⟩
    unfold lot_Of.loop1
    simp -implicitDefEqProofs only [Int.toNat_natCast, rowSV_len, guardO_pos hg1]
    rw [decide_eq_true hg1.2, cond_true, rds_rowF (ls := j2) (w := 2) rfl (by omega) rfl, at2_some hi]
    simp -implicitDefEqProofs only [Option.bind_some, hL_new, hL_next]
    rw [new_c2]
    simp -implicitDefEqProofs only [Option.bind_some]
    rw [r1.1, amtOf_take hi]
    simp -implicitDefEqProofs only [Option.bind_some]
    by_cases hf : (at2 xs i).1 = f
    · rw [decide_eq_true hf, if_pos hf]
      simp -implicitDefEqProofs only [evs, reduceIte, rdRes, rdTT, rdTy, rdLT, Res.un, TT.un, Ty.un, LT.un, Leaf.un, Leaf.plain, LT.plain]
      rw [r1.2]
      simp -implicitDefEqProofs only [evs, reduceIte, rdRes, rdTT, rdTy, rdLT, Res.un, TT.un, Ty.un, LT.un, Leaf.un, Leaf.plain, LT.plain]
      rw [i64_succ (by omega), i64_in _ (by omega), Int.add_assoc]
    · rw [decide_eq_false hf, if_neg hf]
      simp -implicitDefEqProofs only [evs, reduceIte, rdRes, rdTT, rdTy, rdLT, Res.un, TT.un, Ty.un, LT.un, Leaf.un, Leaf.plain, LT.plain]
      rw [i64_succ (by omega), Int.add_zero]) (fun st hst => by
    obtain ⟨sl', rfl⟩ := hst
    refine ⟨_, ?_, sl', rfl⟩
    unfold lot_Of.loop1
    simp -implicitDefEqProofs only [rowSV_len]
    rw [decide_eq_false (by omega), cond_false, List.take_length]) FUEL 0 ((y, 0), hL sl) (by omega) ⟨sl, by simp [amtOf_nil]⟩ (by have := fuel_gt (n := xs.length) (by omega); omega)
  exact ⟨sl', h1⟩
theorem Of_lots {l : List LotT} {f : Int} (he : lotErr l = 0) (hf : okId f = true) : lot_OfP l f = some (amtAll f l, 0) := by
  have hr := rightL_of he
  have hlen := hr.len
  unfold lot_OfP lot_Of
  simp -implicitDefEqProofs only [evs, reduceIte, rdRes, rdTT, rdTy, rdLT, Res.un, TT.un, Ty.un, LT.un, Leaf.un, Leaf.plain, LT.plain, rdRow_argL]
  rw [LRight_ok l (by omega), he]
  simp -implicitDefEqProofs only [evs, reduceIte, rdRes, rdTT, rdTy, rdLT, Res.un, TT.un, Ty.un, LT.un, Leaf.un, Leaf.plain, LT.plain, eq_self, decide_true]
  rw [id_code, hf]
  simp -implicitDefEqProofs only [evs, reduceIte, rdRes, rdTT, rdTy, rdLT, Res.un, TT.un, Ty.un, LT.un, Leaf.un, Leaf.plain, LT.plain]
  have hbd : ∀ i, i ≤ l.length → 0 ≤ amtAll f (l.take i) ∧ amtAll f (l.take i) ≤ i * (32 * 1000000000000000) := fun i => by
    induction i with
    | zero => intro _; simp [amtAll]
    | succ i ih =>
      intro hi
      have h1 := ih (by omega)
      obtain ⟨_, _, a3, _⟩ := hr.all _ (atL_mem (show i < l.length by omega))
      obtain ⟨b1, b2, b3, b4⟩ := shareCheck_ok a3
      have h2 := amtOf_bound f (atL l i).2.2.2 (okS_bound b3)
      rw [amtAll_take (by omega)]
      omega
  obtain ⟨x, h1, sl', rfl⟩ := iter_upto (f := lot_Of.loop2 (rowSV false jL l) f) (fun i st => ∃ sl', st = ((amtAll f (l.take i), (i : Int)), hL sl')) (fun x => ∃ sl', x = (.ex0 (amtAll f l), hL sl')) l.length (fun i st hi hst => by
    obtain ⟨sl', rfl⟩ := hst
    have hg1 : 0 ≤ (i : Int) ∧ (i : Int) < (l.length : Int) := by omega
    obtain ⟨_, _, a3, _⟩ := hr.all _ (atL_mem hi)
    obtain ⟨b1, b2, b3, b4⟩ := shareCheck_ok a3
    have hb1 := hbd i (by omega)
    have hx := atL_some hi
    have htk := amtAll_take (f := f) hi
    generalize atL l i = x at *
    obtain ⟨d, a, m, xs⟩ := x
    simp only at b1 b2 b3 b4 htk
    have nw := new_cL (sl := sl') (x := (d, a, m, rowSV false j2 xs))
    have e0 : (sl' ++ [cL (d, a, m, rowSV false j2 xs)])[sl'.length]? = some (cL (d, a, m, rowSV false j2 xs)) := by simp
    have r0 := rd_cL e0
    obtain ⟨sl2, k1⟩ := of_loop1 (f := f) (y := amtAll f (l.take i)) (xs := xs) (sl := sl' ++ [cL (d, a, m, rowSV false j2 xs)]) (t := false) (by omega) (okS_bound b3) (by omega)
    simp only [cL, rowSV_len, rowSV_cap, rowSV_tail] at nw r0 k1
    refine ⟨((amtAll f (l.take (i + 1)), ((i + 1 : Nat) : Int)), hL sl2), ?_, sl2, rfl⟩
    unfold lot_Of.loop2
    simp -implicitDefEqProofs only [Int.toNat_natCast, rowSV_len, guardO_pos hg1]
    rw [decide_eq_true hg1.2, cond_true, rd_lot hx]
    simp -implicitDefEqProofs only [evs, reduceIte, rdRes, rdTT, rdTy, rdLT, Res.un, TT.un, Ty.un, LT.un, Leaf.un, Leaf.plain, LT.plain, hL_new, hL_next]
    rw [nw]
    simp -implicitDefEqProofs only [evs, reduceIte, rdRes, rdTT, rdTy, rdLT, Res.un, TT.un, Ty.un, LT.un, Leaf.un, Leaf.plain, LT.plain]
    rw [r0.2.2.2]
    simp -implicitDefEqProofs only [evs, reduceIte, rdRes, rdTT, rdTy, rdLT, Res.un, TT.un, Ty.un, LT.un, Leaf.un, Leaf.plain, LT.plain]
    rw [k1]
    simp -implicitDefEqProofs only [evs, reduceIte, rdRes, rdTT, rdTy, rdLT, Res.un, TT.un, Ty.un, LT.un, Leaf.un, Leaf.plain, LT.plain]
    rw [i64_succ (by omega), htk]) (fun st hst => by
    obtain ⟨sl', rfl⟩ := hst
    refine ⟨_, ?_, sl', rfl⟩
    unfold lot_Of.loop2
    simp -implicitDefEqProofs only [rowSV_len]
    rw [decide_eq_false (by omega), cond_false, List.take_length]) FUEL 0 ((0, 0), hL []) (by omega) ⟨[], by simp [amtAll]⟩ (by have := fuel_gt (n := l.length) (by omega); omega)
  rw [hL_empty, h1]
  simp -implicitDefEqProofs only [evs, reduceIte, rdRes, rdTT, rdTy, rdLT, Res.un, TT.un, Ty.un, LT.un, Leaf.un, Leaf.plain, LT.plain]
theorem Total_lots {l : List LotT} (he : lotErr l = 0) (hp : isPlain (sumL (liqs l)) = true) : lot_TotalP l = some (sumL (liqs l), 0) := by
  have hr := rightL_of he
  have hlen := hr.len
  unfold lot_TotalP lot_Total
  simp -implicitDefEqProofs only [evs, reduceIte, rdRes, rdTT, rdTy, rdLT, Res.un, TT.un, Ty.un, LT.un, Leaf.un, Leaf.plain, LT.plain, rdRow_argL, hL_empty, hL_new, hL_next, List.nil_append, List.length_nil, List.length_cons, Nat.zero_add, List.cons_append]
  rw [LRight_ok l (by omega), he]
  simp -implicitDefEqProofs only [evs, reduceIte, rdRes, rdTT, rdTy, rdLT, Res.un, TT.un, Ty.un, LT.un, Leaf.un, Leaf.plain, LT.plain, eq_self, decide_true]
  have z1 : [c2 (0, 0), c2 (0, 0)][1]? = some (c2 (0, 0)) := rfl
  have zw := wrs_c2 (y := (0, 0)) z1
  simp only [c2, List.set_cons_succ, List.set_cons_zero] at zw
  rw [zw]
  simp -implicitDefEqProofs only [evs, reduceIte, rdRes, rdTT, rdTy, rdLT, Res.un, TT.un, Ty.un, LT.un, Leaf.un, Leaf.plain, LT.plain]
  obtain ⟨x, h1, sl', rfl, h2, h3⟩ := iter_upto (f := lot_Total.loop1 (rowSV false jL l) (hL [c2 (0, 0)])) (fun i st => ∃ sl', st = ((i : Int), hL sl') ∧ sl'[0]? = some (c2 (0, 0)) ∧ sl'[1]? = some (c2 (sumL (liqs (l.take i))))) (fun x => ∃ sl', x = (.ex0 (), hL sl') ∧ sl'[0]? = some (c2 (0, 0)) ∧ sl'[1]? = some (c2 (sumL (liqs l)))) l.length (fun i st hi hst => by
    obtain ⟨sl', rfl, e0, e1⟩ := hst
    have hg1 : 0 ≤ (i : Int) ∧ (i : Int) < (l.length : Int) := by omega
    obtain ⟨a1, _, _, _⟩ := hr.all _ (atL_mem hi)
    have hb := isPlain_iff.1 a1
    simp only at hb
    have lb := liqs_bound hr i (by omega)
    have hls := liqs_snoc hi
    have hx := atL_some hi
    have hl1 := (List.getElem?_eq_some_iff.1 e1).1
    generalize atL l i = x at *
    obtain ⟨d, a, m, xs⟩ := x
    simp only at hb hls
    generalize hS : sumL (liqs (l.take i)) = S at *
    obtain ⟨A, M⟩ := S
    simp only at lb hls
    have nw := new_cL (sl := sl') (x := (d, a, m, rowSV false j2 xs))
    have f2 : (sl' ++ [cL (d, a, m, rowSV false j2 xs)])[sl'.length]? = some (cL (d, a, m, rowSV false j2 xs)) := by simp
    have f1 : (sl' ++ [cL (d, a, m, rowSV false j2 xs)])[1]? = some (c2 (A, M)) := by rw [List.getElem?_append_left hl1, e1]
    have f0 : (sl' ++ [cL (d, a, m, rowSV false j2 xs)])[0]? = some (c2 (0, 0)) := by rw [List.getElem?_append_left (by omega), e0]
    have r2 := rd_cL f2
    have r1 := rd_c2 f1
    have w1 := wr0_c2 (y := A + a) f1
    have hTl : 1 < (sl' ++ [cL (d, a, m, rowSV false j2 xs)]).length := (List.getElem?_eq_some_iff.1 f1).1
    have g1 : ((sl' ++ [cL (d, a, m, rowSV false j2 xs)]).set 1 (c2 (A + a, M)))[1]? = some (c2 (A + a, M)) := by rw [List.getElem?_set_self hTl]
    have w2 := wr1_c2 (y := M + m) g1
    rw [List.set_set] at w2
    refine ⟨(((i + 1 : Nat) : Int), hL ((sl' ++ [cL (d, a, m, rowSV false j2 xs)]).set 1 (c2 (A + a, M + m)))), ?_, _, rfl, by rw [List.getElem?_set_ne (by omega), f0], by rw [List.getElem?_set_self hTl, hls]⟩
    simp only [cL, rowSV_len, rowSV_cap, rowSV_tail] at nw r2 r1 w1 w2
    unfold lot_Total.loop1
    simp -implicitDefEqProofs only [Int.toNat_natCast, rowSV_len, guardO_pos hg1]
    rw [decide_eq_true hg1.2, cond_true, rd_lot hx]
    simp -implicitDefEqProofs only [evs, reduceIte, rdRes, rdTT, rdTy, rdLT, Res.un, TT.un, Ty.un, LT.un, Leaf.un, Leaf.plain, LT.plain, hL_new, hL_next, List.length_cons, List.length_nil, Nat.zero_add]
    rw [nw]
    simp -implicitDefEqProofs only [evs, reduceIte, rdRes, rdTT, rdTy, rdLT, Res.un, TT.un, Ty.un, LT.un, Leaf.un, Leaf.plain, LT.plain]
    rw [r1.1]
    simp -implicitDefEqProofs only [evs, reduceIte, rdRes, rdTT, rdTy, rdLT, Res.un, TT.un, Ty.un, LT.un, Leaf.un, Leaf.plain, LT.plain]
    rw [r2.2.1]
    simp -implicitDefEqProofs only [evs, reduceIte, rdRes, rdTT, rdTy, rdLT, Res.un, TT.un, Ty.un, LT.un, Leaf.un, Leaf.plain, LT.plain]
    rw [r1.2]
    simp -implicitDefEqProofs only [evs, reduceIte, rdRes, rdTT, rdTy, rdLT, Res.un, TT.un, Ty.un, LT.un, Leaf.un, Leaf.plain, LT.plain]
    rw [r2.2.2.1]
    simp -implicitDefEqProofs only [evs, reduceIte, rdRes, rdTT, rdTy, rdLT, Res.un, TT.un, Ty.un, LT.un, Leaf.un, Leaf.plain, LT.plain]
    rw [i64_in (A + a) (by omega), i64_in (M + m) (by omega), w1]
    simp -implicitDefEqProofs only [evs, reduceIte, rdRes, rdTT, rdTy, rdLT, Res.un, TT.un, Ty.un, LT.un, Leaf.un, Leaf.plain, LT.plain]
    rw [w2]
    simp -implicitDefEqProofs only [evs, reduceIte, rdRes, rdTT, rdTy, rdLT, Res.un, TT.un, Ty.un, LT.un, Leaf.un, Leaf.plain, LT.plain]
    rw [guardO_pos (apart_hp (by omega)), i64_succ (by omega)]
    rfl) (fun st hst => by
    obtain ⟨sl', rfl, e0, e1⟩ := hst
    rw [List.take_length] at e1
    refine ⟨_, ?_, sl', rfl, e0, e1⟩
    unfold lot_Total.loop1
    simp -implicitDefEqProofs only [rowSV_len]
    rw [decide_eq_false (by omega), cond_false]) FUEL 0 (0, hL [c2 (0, 0), c2 (0, 0)]) (by omega) ⟨_, rfl, rfl, by simp [sumL, liqs]⟩ (by have := fuel_gt (n := l.length) (by omega); omega)
  simp only [c2] at h1
  rw [h1]
  simp -implicitDefEqProofs only [evs, reduceIte, rdRes, rdTT, rdTy, rdLT, Res.un, TT.un, Ty.un, LT.un, Leaf.un, Leaf.plain, LT.plain]
  rw [rds_c2 h3]
  simp -implicitDefEqProofs only [evs, reduceIte, rdRes, rdTT, rdTy, rdLT, Res.un, TT.un, Ty.un, LT.un, Leaf.un, Leaf.plain, LT.plain]
  rw [lplain_ok, hp]
  simp -implicitDefEqProofs only [evs, reduceIte, rdRes, rdTT, rdTy, rdLT, Res.un, TT.un, Ty.un, LT.un, Leaf.un, Leaf.plain, LT.plain]
  have hl0 := (List.getElem?_eq_some_iff.1 h2).1
  rw [show H.wrs (hL sl') (.hp 0 2 0) [V.int .i64 (sumL (liqs l)).1, V.int .i64 (sumL (liqs l)).2] = _ from wrs_c2 (y := sumL (liqs l)) h2]
  simp -implicitDefEqProofs only [evs, reduceIte, rdRes, rdTT, rdTy, rdLT, Res.un, TT.un, Ty.un, LT.un, Leaf.un, Leaf.plain, LT.plain]
  rw [rds_c2 (x := sumL (liqs l)) (by rw [List.getElem?_set_self hl0])]
  simp -implicitDefEqProofs only [evs, reduceIte, rdRes, rdTT, rdTy, rdLT, Res.un, TT.un, Ty.un, LT.un, Leaf.un, Leaf.plain, LT.plain]
end Go.Proofs.Ytbcpdecgfdlaaaa
