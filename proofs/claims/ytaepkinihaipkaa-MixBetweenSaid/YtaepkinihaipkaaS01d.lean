/- What package proportion computes of two or three numbers. Conditions: those of each law. -/
import Derived.Test.YtaepkinihaipkaaS01c
namespace Go.Proofs.Ytaepkinihaipkaa
open Go Go.Proofs.Ytaepkinihaipkaa.Ev
set_option linter.unusedVariables false
set_option linter.unusedSimpArgs false
set_option maxRecDepth 100000
set_option maxHeartbeats 1000000
theorem IndexFunc_int {T : Table} {v : V} {h : H} {xs : List Int} {f : Bool} (p : Int → Bool) (hn : xs.length < 2 ^ 63) (hc : ∀ x ∈ xs, ∀ {R : Type} (k : V → H → Option R), callV T.dy v [.int .i64 x] h k = k (.bool (p x)) h) :
    slices_IndexFunc_int_int T (rowSV f [.int .i64] xs) v h = some (idxOf p xs, h) := by
  unfold slices_IndexFunc_int_int
  rw [iter_find xs p (fun i => (i : Int)) hn (fun i x hx => by
    obtain ⟨hlt, rfl⟩ := List.getElem?_eq_some_iff.1 hx
    unfold slices_IndexFunc_int_int.loop1
    simp only [rowSV_len, Int.toNat_natCast]
    rw [decide_eq_true (by omega), cond_true, guardO_pos (by omega), rd_rowI, hx]
    simp only [Option.bind_some]
    rw [hc _ (List.getElem_mem hlt)]
    simp only [Res.pack, Ty.pack, Leaf.pack, Option.bind_some]
    rw [i64_succ (by omega)]
    cases p xs[i] <;> rfl) (by
    unfold slices_IndexFunc_int_int.loop1
    simp only [rowSV_len]
    rw [decide_eq_false (by omega), cond_false])]
  unfold idxOf
  cases xs.findIdx? p <;> rfl
theorem ContainsFunc_int {T : Table} {v : V} {h : H} {xs : List Int} {f : Bool} (p : Int → Bool) (hn : xs.length < 2 ^ 63) (hc : ∀ x ∈ xs, ∀ {R : Type} (k : V → H → Option R), callV T.dy v [.int .i64 x] h k = k (.bool (p x)) h) :
    slices_ContainsFunc_int_int T (rowSV f [.int .i64] xs) v h = some (xs.any p, h) := by
  unfold slices_ContainsFunc_int_int
  rw [IndexFunc_int (T := slices_ContainsFunc_int_int.tb T) p hn hc]
  simp only [Option.bind_some, idxOf_nonneg]
def isAmt (n : Int) : Bool := decide (0 ≤ n) && decide (n ≤ 128849018880000)
theorem isAmt_iff {n : Int} : isAmt n = true ↔ 0 ≤ n ∧ n ≤ 128849018880000 := by simp [isAmt]
theorem amount_ok (n : Int) : proportion_amountP n = some (isAmt n) := by
  unfold proportion_amountP proportion_amount isAmt
  cases decide (0 ≤ n) <;> rfl
theorem amounts1_ok (n : Int) : proportion_amounts_1P n = some (!isAmt n) := by
  unfold proportion_amounts_1P proportion_amounts_1
  simp only [Option.bind_some, Option.bind_none, Option.map_some, Option.map_none, cond_true, cond_false, Bool.not_true, Bool.not_false, if_true, if_false, reduceIte, rdRes, rdTT, rdTy, rdLT, rdLeaf_int, rdLeaf_bool, rdLeaf_str, rdLeaf_row, Res.un, TT.un, Ty.un, LT.un, Leaf.un, rdRow_i1, rdRow_i2, rdRow_i3, rdRow_i4, rdRow_i5, rdRow_args, rdRow_res, rdRow_nil, Leaf.plain, LT.plain, List.isEmpty_cons, Bool.and_self, Bool.and_true, Bool.true_and, Bool.or_true, Bool.true_or, Bool.or_false, Bool.false_or, reserve0, rowSV_len, rowSV_cap, rowSV_tail, guardO_true, amount_ok]
theorem amounts_ok (xs : List Int) (hn : xs.length < 2 ^ 63) : proportion_amountsP xs = some (xs.all isAmt) := by
  unfold proportion_amountsP proportion_amounts
  rw [ContainsFunc_int (fun x => !isAmt x) hn (fun x hx R k => by
    show (proportion_amounts_1P x).bind (fun r => k ((Res.one (.leaf .bool)).lo true r) H.empty) = _
    rw [amounts1_ok]; rfl)]
  simp only [Option.bind_some, Option.bind_none, Option.map_some, Option.map_none, cond_true, cond_false, Bool.not_true, Bool.not_false, if_true, if_false, reduceIte, rdRes, rdTT, rdTy, rdLT, rdLeaf_int, rdLeaf_bool, rdLeaf_str, rdLeaf_row, Res.un, TT.un, Ty.un, LT.un, Leaf.un, rdRow_i1, rdRow_i2, rdRow_i3, rdRow_i4, rdRow_i5, rdRow_args, rdRow_res, rdRow_nil, Leaf.plain, LT.plain, List.isEmpty_cons, Bool.and_self, Bool.and_true, Bool.true_and, Bool.or_true, Bool.true_or, Bool.or_false, Bool.false_or, reserve0, rowSV_len, rowSV_cap, rowSV_tail, guardO_true]
  rw [List.any_eq_not_all_not]
  simp
end Go.Proofs.Ytaepkinihaipkaa
