/- Small laws for reasoning about the printed functions: loops, rows by their elements, heaps that are written down slot by slot. Conditions: those of each law. -/
import Derived.Test.YtjkjcnadgpndoaaGreatEvEntry
import Derived.IntWalk
namespace Go.Proofs.YtjkjcnadgpndoaaGreat.Ev
open Go
set_option linter.unusedVariables false
set_option linter.unusedSimpArgs false

theorem guardO_pos {p : Prop} [Decidable p] {R : Type} (h : p) (x : Option R) : guardO p x = x := by simp [guardO, h]
theorem guardO_true {R : Type} (x : Option R) : guardO True x = x := rfl

/-! ### Loops -/

/-- A loop that takes m rounds and ends. -/
theorem iter_run {S F : Type} {f : S → Option (Stp S F)} {x : F} (st : Nat → S) : ∀ (m n : Nat), (∀ i, i < m → f (st i) = some (.more (st (i + 1)))) → f (st m) = some (.done x) → m < n → iter n f (st 0) = some x
  | 0, 0, _, _, h => by omega
  | 0, n + 1, _, hd, _ => by simp [iter, hd]
  | m + 1, 0, _, _, h => by omega
  | m + 1, n + 1, hs, hd, h => by
    simp only [iter, hs 0 (by omega), Option.bind_some]
    exact iter_run (fun i => st (i + 1)) m n (fun i hi => hs (i + 1) (by omega)) hd (by omega)
theorem iter_from {S F : Type} {f : S → Option (Stp S F)} {x : F} (st : Nat → S) {s0 : S} (h0 : st 0 = s0) (m n : Nat) (hs : ∀ i, i < m → f (st i) = some (.more (st (i + 1)))) (hd : f (st m) = some (.done x)) (h : m < n) : iter n f s0 = some x := by
  rw [← h0]; exact iter_run st m n hs hd h
/-- A loop with an invariant and a measure that ends. -/
theorem iter_inv {S F : Type} {f : S → Option (Stp S F)} {Inv : S → Prop} {Post : F → Prop} (μ : S → Nat)
    (step : ∀ s, Inv s → (∃ s', f s = some (.more s') ∧ Inv s' ∧ μ s' < μ s) ∨ ∃ x, f s = some (.done x) ∧ Post x) : ∀ (n : Nat) (s : S), Inv s → μ s < n → ∃ x, iter n f s = some x ∧ Post x
  | 0, s, _, h => by omega
  | n + 1, s, hi, h => by
    rcases step s hi with ⟨s', h1, h2, h3⟩ | ⟨x, h1, h2⟩
    · obtain ⟨x, k1, k2⟩ := iter_inv μ step n s' h2 (by omega)
      exact ⟨x, by simp only [iter, h1, Option.bind_some]; exact k1, k2⟩
    · exact ⟨x, by simp [iter, h1], h2⟩
/-- A loop over places that may end early. -/
theorem iter_scan {S F : Type} {f : S → Option (Stp S F)} {y : F} (g : Nat → Option F) : ∀ (m : Nat) (st : Nat → S) (n : Nat), (∀ i, i < m → f (st i) = some (match g i with | some x => .done x | none => .more (st (i + 1)))) →
    f (st m) = some (.done y) → m < n → iter n f (st 0) = some (((List.range m).findSome? g).getD y)
  | 0, st, 0, _, _, h => by omega
  | 0, st, n + 1, _, hd, _ => by simp [iter, hd]
  | m + 1, st, 0, _, _, h => by omega
  | m + 1, st, n + 1, hs, hd, h => by
    have h0 := hs 0 (by omega)
    simp only [iter]
    rw [h0]
    rw [List.range_succ_eq_map, List.findSome?_cons, List.findSome?_map]
    cases hg : g 0 with
    | some x => simp
    | none =>
      simp only [Option.bind_some]
      have := iter_scan (y := y) (fun i => g (i + 1)) m (fun i => st (i + 1)) n (fun i hi => hs (i + 1) (by omega)) hd (by omega)
      exact this
/-- The same over a list. -/
theorem iter_list {S F α : Type} {f : S → Option (Stp S F)} {y : F} (l : List α) (g : α → Option F) (st : Nat → S) (n : Nat) (hs : ∀ i x, l[i]? = some x → f (st i) = some (match g x with | some x => .done x | none => .more (st (i + 1))))
    (hd : f (st l.length) = some (.done y)) (hn : l.length < n) : iter n f (st 0) = some ((l.findSome? g).getD y) := by
  have := iter_scan (f := f) (y := y) (fun i => (l[i]?).bind g) l.length st n (fun i hi => by
    rw [hs i l[i] (List.getElem?_eq_getElem hi), List.getElem?_eq_getElem hi]
    rfl) hd hn
  rw [this]
  congr 2
  clear hs hd hn this
  induction l with
  | nil => rfl
  | cons a l ih =>
    rw [List.length_cons, List.range_succ_eq_map, List.findSome?_cons, List.findSome?_map, List.findSome?_cons]
    simp only [List.getElem?_cons_zero, Option.bind_some]
    cases g a with
    | some x => rfl
    | none => exact ih
/-- A search for a place. -/
theorem iter_find {F α : Type} {h : H} {f : Int × H → Option (Stp (Int × H) (Flow Unit F × H))} (xs : List α) (p : α → Bool) (r : Nat → F) (hn : xs.length < 2 ^ 63)
    (hs : ∀ (i : Nat) x, xs[i]? = some x → f ((i : Int), h) = some (bif p x then .done (.ret (r i), h) else .more (((i + 1 : Nat) : Int), h)))
    (hd : f ((xs.length : Int), h) = some (.done (.ex0 (), h))) : iter FUEL f (0, h) = some (match xs.findIdx? p with | some i => (.ret (r i), h) | none => (.ex0 (), h)) := by
  have hfu : xs.length < FUEL := Nat.lt_trans hn (by unfold FUEL; exact Nat.pow_lt_pow_right (by omega) (by omega))
  cases hx : xs.findIdx? p with
  | none =>
    rw [List.findIdx?_eq_none_iff] at hx
    exact iter_run (fun i => ((i : Int), h)) xs.length FUEL (fun i hi => by
      rw [hs i xs[i] (List.getElem?_eq_getElem hi), hx xs[i] (List.getElem_mem hi)]; rfl) hd hfu
  | some m =>
    rw [List.findIdx?_eq_some_iff_getElem] at hx
    obtain ⟨hm, hp, hlt⟩ := hx
    exact iter_run (fun i => ((i : Int), h)) m FUEL (fun i hi => by
      have hpi := hlt i hi
      rw [hs i xs[i] (List.getElem?_eq_getElem (by omega)), Bool.eq_false_iff.2 hpi]; rfl) (by
      rw [hs m xs[m] (List.getElem?_eq_getElem hm), hp]; rfl) (by omega)
/-- Where the first element is that has a property; -1 if there is none. -/
def idxOf {α : Type} (p : α → Bool) (xs : List α) : Int := match xs.findIdx? p with | some i => (i : Int) | none => -1
theorem idxOf_nonneg {α : Type} (p : α → Bool) (xs : List α) : decide (0 ≤ idxOf p xs) = xs.any p := by
  unfold idxOf
  cases hx : xs.findIdx? p with
  | none =>
    rw [List.findIdx?_eq_none_iff] at hx
    have : xs.any p = false := by rw [List.any_eq_false]; intro x hm; simp [hx x hm]
    rw [this]; rfl
  | some m =>
    rw [List.findIdx?_eq_some_iff_getElem] at hx
    obtain ⟨hm, hp, hlt⟩ := hx
    have : xs.any p = true := by rw [List.any_eq_true]; exact ⟨xs[m], List.getElem_mem hm, hp⟩
    rw [this]; simp
theorem all_find {α : Type} (p : α → Bool) (xs : List α) : xs.all p = (xs.findIdx? fun x => !p x).isNone := by
  cases h : xs.findIdx? fun x => !p x with
  | none => rw [List.findIdx?_eq_none_iff] at h; rw [List.all_eq_true.2 (fun x hx => by simpa using h x hx)]; rfl
  | some m =>
    rw [List.findIdx?_eq_some_iff_getElem] at h
    obtain ⟨hm, hp, _⟩ := h
    have : xs.all p = false := List.all_eq_false.2 ⟨xs[m], List.getElem_mem hm, by simpa using hp⟩
    rw [this]; rfl
theorem zip_all {α : Type} [DecidableEq α] : ∀ (a b : List α), a.length = b.length → (a.zip b).all (fun p => decide (p.1 = p.2)) = decide (a = b)
  | [], [], _ => rfl
  | [], _ :: _, h => by simp at h
  | _ :: _, [], h => by simp at h
  | x :: a, y :: b, h => by
    have ih := zip_all a b (by simpa using h)
    simp only [List.zip_cons_cons, List.all_cons, ih, List.cons.injEq, Bool.decide_and]
/-- A comparison of two lists, element by element. -/
theorem iter_same {α : Type} [DecidableEq α] {h : H} {f : Int × H → Option (Stp (Int × H) (Flow Unit Bool × H))} (a b : List α) (hab : a.length = b.length) (hn : a.length < 2 ^ 63)
    (hs : ∀ (i : Nat) x y, a[i]? = some x → b[i]? = some y → i < a.length → f ((i : Int), h) = some (bif !decide (x = y) then .done (.ret false, h) else .more (((i + 1 : Nat) : Int), h)))
    (hd : f ((a.length : Int), h) = some (.done (.ex0 (), h))) : iter FUEL f (0, h) = some (if a = b then (.ex0 (), h) else (.ret false, h)) := by
  have hl : (a.zip b).length = a.length := by rw [List.length_zip]; omega
  rw [iter_find (a.zip b) (fun p => !decide (p.1 = p.2)) (fun _ => false) (by omega) (fun i p hp => by
    obtain ⟨x, y⟩ := p
    have := List.getElem?_zip_eq_some.1 hp
    exact hs i x y this.1 this.2 (List.getElem?_eq_some_iff.1 this.1).1) (by rw [hl]; exact hd)]
  have hz := zip_all a b hab
  rw [all_find] at hz
  cases hx : (a.zip b).findIdx? fun p => !decide (p.1 = p.2) with
  | none =>
    rw [hx] at hz
    have : a = b := of_decide_eq_true hz.symm
    rw [if_pos this]
  | some m =>
    rw [hx] at hz
    have : ¬ a = b := of_decide_eq_false hz.symm
    rw [if_neg this]
theorem fuel_gt {n : Nat} (h : n < 2 ^ 69) : n < FUEL := Nat.lt_of_lt_of_le h (by unfold FUEL; exact Nat.pow_le_pow_right (by omega) (by omega))

/-! ### Rows by their elements -/

mutual
def Leaf.plain : Leaf → Bool
  | .int _ | .bool | .str => true
  | .row ls => !ls.isEmpty && LT.plain ls
  | _ => false
def LT.plain : List Leaf → Bool
  | [] => true
  | l :: ls => l.plain && LT.plain ls
end
theorem LT.lo_length {f : Bool} : ∀ (ls : List Leaf) (x : LT ls), (LT.lo f ls x).length = ls.length
  | [], _ => rfl
  | [l], x => rfl
  | l :: l' :: ls, x => by simp [LT.lo, LT.lo_length (l' :: ls)]
theorem flat_length {f : Bool} {ls : List Leaf} (xs : List (LT ls)) : (xs.flatMap fun x => LT.lo f ls x).length = xs.length * ls.length := by
  induction xs with
  | nil => simp
  | cons x xs ih => simp [ih, LT.lo_length, Nat.add_mul, Nat.add_comm]
theorem flat_drop {f : Bool} {ls : List Leaf} : ∀ (xs : List (LT ls)) (i : Nat), (xs.flatMap fun x => LT.lo f ls x).drop (i * ls.length) = (xs.drop i).flatMap fun x => LT.lo f ls x
  | [], i => by simp
  | x :: xs, 0 => by simp
  | x :: xs, i + 1 => by
    rw [List.flatMap_cons, Nat.add_mul, Nat.one_mul, Nat.add_comm, ← List.drop_drop]
    rw [List.drop_left' (LT.lo_length ls x), flat_drop xs i]
    rfl
theorem chunks_flat {f : Bool} {ls : List Leaf} : ∀ (xs : List (LT ls)), chunks ls.length xs.length (xs.flatMap fun x => LT.lo f ls x) = xs.map fun x => LT.lo f ls x
  | [] => rfl
  | x :: xs => by
    simp only [List.length_cons, chunks, List.flatMap_cons, List.map_cons]
    rw [List.take_left' (LT.lo_length ls x), List.drop_left' (LT.lo_length ls x), chunks_flat xs]
mutual
theorem rdLeaf_lo {lp f : Bool} {h : H} (hb : (lp || f) = true) : ∀ (l : Leaf) (x : l.C), l.plain = true → rdLeaf lp h l (l.lo f x) = some x
  | .int k, x, _ => by simp [rdLeaf, Leaf.lo]
  | .bool, x, _ => by simp [rdLeaf, Leaf.lo]
  | .str, x, _ => by simp [rdLeaf, Leaf.lo]
  | .ptr, x, hp => by simp [Leaf.plain] at hp
  | .slice, x, hp => by simp [Leaf.plain] at hp
  | .map, x, hp => by simp [Leaf.plain] at hp
  | .dyn, x, hp => by simp [Leaf.plain] at hp
  | .tok, x, _ => rfl
  | .row ls, xs, hp => by
    simp only [Leaf.plain, Bool.and_eq_true] at hp
    have hpos : 0 < ls.length := by cases ls <;> simp_all
    simp only [rdLeaf, Leaf.lo, V.readable, hb, cond_true]
    cases xs with
    | nil => simp
    | cons x xs =>
      rw [if_neg (by simp)]
      simp only [H.rds, H.from, List.drop_zero, Option.bind_some]
      rw [if_pos ⟨by rw [flat_length]; exact Nat.le_refl _, by rw [List.length_cons]; exact Nat.ne_of_gt (Nat.mul_pos (by omega) hpos)⟩]
      rw [List.take_of_length_le (by rw [flat_length]; exact Nat.le_refl _), Option.bind_some, chunks_flat]
      have : ∀ (ys : List (LT ls)), mapO (fun c => rdLT lp h ls c) (ys.map fun x => LT.lo f ls x) = some ys := fun ys => by
        induction ys with
        | nil => rfl
        | cons y ys ih => simp only [List.map_cons, mapO, rdLT_lo hb ls y hp.2, Option.bind_some, ih]
      exact this _
theorem rdLT_lo {lp f : Bool} {h : H} (hb : (lp || f) = true) : ∀ (ls : List Leaf) (x : LT ls), LT.plain ls = true → rdLT lp h ls (LT.lo f ls x) = some x
  | [], x, _ => rfl
  | [l], x, hp => by
    simp only [LT.plain, Bool.and_eq_true] at hp
    simp only [rdLT, LT.lo, rdLeaf_lo hb l x hp.1]
  | l :: l' :: ls, x, hp => by
    simp only [LT.plain, Bool.and_eq_true] at hp
    simp only [rdLT, LT.lo, rdLeaf_lo hb l x.1 hp.1, Option.bind_some]
    rw [rdLT_lo hb (l' :: ls) x.2 (by simp only [LT.plain, Bool.and_eq_true]; exact hp.2)]
    rfl
end
/-- A row that is handed on. -/
theorem rdRow_args {f : Bool} {h : H} {ls : List Leaf} {xs : List (LT ls)} (hp : Leaf.plain (.row ls) = true) : rdRow true h ls (rowSV f ls xs) = some xs := rdLeaf_lo (f := f) rfl (.row ls) xs hp
/-- A row that is handed back. -/
theorem rdRow_res {lp : Bool} {h : H} {ls : List Leaf} {xs : List (LT ls)} (hp : Leaf.plain (.row ls) = true) : rdRow lp h ls (rowSV true ls xs) = some xs := rdLeaf_lo (f := true) (by simp) (.row ls) xs hp
theorem rdRow_nil {lp : Bool} {h : H} {ls : List Leaf} {a : V} {c : Nat} {t : Bool} : rdRow lp h ls ⟨a, 0, c, t⟩ = some [] := by simp [rdRow, rdLeaf]
theorem rowSV_len {f : Bool} {ls : List Leaf} {xs : List (LT ls)} : (rowSV f ls xs).len = xs.length := congrArg SV.len (Eq.refl (rowSV f ls xs))
theorem rowSV_cap {f : Bool} {ls : List Leaf} {xs : List (LT ls)} : (rowSV f ls xs).cap = xs.length := congrArg SV.cap (Eq.refl (rowSV f ls xs))
theorem rowSV_tail {f : Bool} {ls : List Leaf} {xs : List (LT ls)} : (rowSV f ls xs).tail = true := congrArg SV.tail (Eq.refl (rowSV f ls xs))
theorem rowSV_nil {f : Bool} {ls : List Leaf} : rowSV f ls [] = ⟨.lp f [] 0, 0, 0, true⟩ := rfl
theorem add_add (a : V) (i j : Nat) : (a.add i).add j = a.add (i + j) := by cases a <;> simp [V.add, Nat.add_assoc]
theorem add_zero (a : V) : a.add 0 = a := by cases a <;> rfl
/-- What can be read from the cells of some elements. -/
theorem flat_get {f : Bool} {ls : List Leaf} {xs : List (LT ls)} {i o : Nat} (ho : o < ls.length) : (xs.flatMap fun x => LT.lo f ls x)[i * ls.length + o]? = (xs[i]?).bind fun x => (LT.lo f ls x)[o]? := by
  rw [← List.getElem?_drop, flat_drop]
  cases hx : xs[i]? with
  | none =>
    have : xs.length ≤ i := List.getElem?_eq_none_iff.1 hx
    rw [List.drop_eq_nil_of_le this]
    simp
  | some x =>
    obtain ⟨hlt, rfl⟩ := List.getElem?_eq_some_iff.1 hx
    rw [List.drop_eq_getElem_cons hlt, List.flatMap_cons, List.getElem?_append_left (by rw [LT.lo_length]; exact ho)]
    rfl
theorem from_row {f : Bool} {h : H} {ls : List Leaf} {xs : List (LT ls)} {n : Nat} : h.from ((rowSV f ls xs).a.add n) = some ((xs.flatMap fun x => LT.lo f ls x).drop n) := by
  simp [rowSV, V.add, H.from]
/-- One cell of an element. -/
theorem rd_row {f : Bool} {h : H} {ls : List Leaf} {xs : List (LT ls)} {l : Leaf} {i w o : Nat} (hw : ls.length = w) (ho : o < w) :
    rdT (.leaf l) h ((rowSV f ls xs).a.add (i * w + o)) = (xs[i]?).bind fun x => ((LT.lo f ls x)[o]?).bind l.pack := by
  subst hw
  simp only [rdT, H.rd, from_row, Option.bind_some, List.head?_drop]
  rw [flat_get ho, Option.bind_assoc]
theorem rd_row0 {f : Bool} {h : H} {ls : List Leaf} {xs : List (LT ls)} {l : Leaf} {i w : Nat} (hw : ls.length = w) (ho : 0 < w) :
    rdT (.leaf l) h ((rowSV f ls xs).a.add (i * w)) = (xs[i]?).bind fun x => ((LT.lo f ls x)[0]?).bind l.pack := rd_row (o := 0) hw ho
theorem nn_row {f : Bool} {ls : List Leaf} {xs : List (LT ls)} {n : Nat} (hx : xs.length ≠ 0) (hl : ls.length ≠ 0) : ((rowSV f ls xs).a.add n).nn = true := by
  simp only [rowSV, V.add, V.nn]
  cases xs with
  | nil => simp at hx
  | cons x xs =>
    have := LT.lo_length (f := f) ls x
    cases hh : LT.lo f ls x with
    | nil => rw [hh] at this; simp at this; omega
    | cons _ _ => simp [hh]
/-- A whole element. -/
theorem rds_row {f : Bool} {h : H} {ls : List Leaf} {xs : List (LT ls)} {ms : List Leaf} {i w : Nat} (hw : ls.length = w) (hm : ms.length = w) (ho : 0 < w) :
    rdT (.agg ms) h ((rowSV f ls xs).a.add (i * w)) = (xs[i]?).bind fun x => LT.pack ms (LT.lo f ls x) := by
  subst hw
  simp only [rdT, H.rds, from_row, Option.bind_some, flat_drop]
  cases hx : xs[i]? with
  | none =>
    have : xs.length ≤ i := List.getElem?_eq_none_iff.1 hx
    rw [List.drop_eq_nil_of_le this]
    simp
  | some x =>
    obtain ⟨hlt, rfl⟩ := List.getElem?_eq_some_iff.1 hx
    rw [List.drop_eq_getElem_cons hlt, List.flatMap_cons, hm]
    rw [if_pos ⟨by simp [LT.lo_length], by omega⟩]
    rw [List.take_left' (LT.lo_length ls _)]
    rfl

theorem rd_rowI {f : Bool} {h : H} {k : IntKind} {xs : List Int} {i : Nat} : rdT (.leaf (.int k)) h ((rowSV f [.int k] xs).a.add (i * 1)) = xs[i]? := by
  rw [rd_row0 (w := 1) (ls := [.int k]) (xs := xs) rfl (by omega)]
  cases xs[i]? <;> simp [LT.lo, Leaf.lo, Leaf.pack]
/-- Leaves that are no slices. -/
def LT.flat : List Leaf → Bool
  | [] => true
  | .int _ :: ls | .bool :: ls | .str :: ls => LT.flat ls
  | _ => false
theorem flat_pack {f : Bool} : ∀ (ls : List Leaf) (x : LT ls), LT.flat ls = true → LT.pack ls (LT.lo f ls x) = some x
  | [], x, _ => rfl
  | [l], x, h => by cases l <;> simp_all [LT.flat, LT.lo, LT.pack, Leaf.lo, Leaf.pack]
  | l :: l' :: ls, x, h => by
    have h1 : l.pack (l.lo f x.1) = some x.1 ∧ LT.flat (l' :: ls) = true := by cases l <;> simp_all [LT.flat, Leaf.lo, Leaf.pack]
    simp only [LT.lo, LT.pack, h1.1, Option.bind_some]
    rw [flat_pack (l' :: ls) x.2 h1.2]
    rfl
theorem rds_rowF {f : Bool} {h : H} {ls : List Leaf} {xs : List (LT ls)} {i w : Nat} (hw : ls.length = w) (ho : 0 < w) (hf : LT.flat ls = true) :
    rdT (.agg ls) h ((rowSV f ls xs).a.add (i * w)) = xs[i]? := by
  rw [rds_row hw hw ho]
  cases xs[i]? with
  | none => rfl
  | some x => simp [flat_pack ls x hf]

/-! ### Heaps, slot by slot -/

/-- A heap of some slots. -/
def hL (l : List Slot) : H := ⟨l.length, fun i => (l[i]?).getD .fresh⟩
theorem H.ext' {a b : H} (h1 : a.next = b.next) (h2 : ∀ i, a.m i = b.m i) : a = b := by
  obtain ⟨n, m⟩ := a
  obtain ⟨n', m'⟩ := b
  simp only at h1 h2
  subst h1
  have : m = m' := funext h2
  rw [this]
theorem hL_empty : H.empty = hL [] := H.ext' rfl fun i => by simp [H.empty, hL]
theorem hL_next {l : List Slot} : (hL l).next = l.length := rfl
theorem hL_m {l : List Slot} {i : Nat} : (hL l).m i = (l[i]?).getD .fresh := rfl
theorem hL_new {l : List Slot} {cs : List V} {e : Nat} : H.new (hL l) cs e = hL (l ++ [.own cs e]) := by
  refine H.ext' (by simp [H.new, hL]) fun i => ?_
  simp only [H.new, hL]
  by_cases hi : i = l.length
  · subst hi
    simp
  · rw [beq_ne hi, cond_false]
    rcases Nat.lt_or_ge i l.length with h | h
    · rw [List.getElem?_append_left h]
    · rw [List.getElem?_eq_none h, List.getElem?_eq_none (by simp; omega)]
theorem hL_put {l : List Slot} {i : Nat} {s : Slot} (hi : i < l.length) : H.put (hL l) i s = hL (l.set i s) := by
  refine H.ext' (by simp [H.put, hL]) fun j => ?_
  simp only [H.put, hL]
  by_cases hj : j = i
  · subst hj
    simp [hi]
  · rw [beq_ne hj, cond_false, List.getElem?_set_ne (by omega)]
theorem hL_reserve {l : List Slot} {n : Nat} : H.reserve (hL l) n = hL (l ++ List.replicate n .fresh) := by
  refine H.ext' (by simp [H.reserve, hL]) fun j => ?_
  simp only [H.reserve, hL]
  rcases Nat.lt_or_ge j l.length with h | h
  · rw [List.getElem?_append_left h]
  · rw [List.getElem?_eq_none h, List.getElem?_append_right h, List.getElem?_replicate]
    split <;> rfl
theorem reserve0 {h : H} : H.reserve h 0 = h := rfl
theorem rd_hp {l : Leaf} {h : H} {id g o : Nat} : rdT (.leaf l) h (.hp id g o) = (match h.m id with
    | .own cs _ => if cs.length = g then (cs[o]?).bind l.pack else none
    | _ => none) := by
  simp only [rdT, H.rd, H.from]
  cases h.m id <;> try rfl
  rename_i cs e
  simp only
  by_cases hg : cs.length = g
  · simp [hg, List.head?_drop]
  · simp [hg]
theorem rds_hp {ls : List Leaf} {h : H} {id g o : Nat} (hl : ls.length ≠ 0) : rdT (.agg ls) h (.hp id g o) = (match h.m id with
    | .own cs _ => if cs.length = g ∧ ls.length ≤ cs.length - o then LT.pack ls ((cs.drop o).take ls.length) else none
    | _ => none) := by
  simp only [rdT, H.rds, H.from]
  cases h.m id <;> try rfl
  rename_i cs e
  simp only
  by_cases hg : cs.length = g
  · subst hg
    by_cases hl : ls.length ≤ cs.length - o
    · simp [*]
    · simp [hl]
  · simp [hg]
theorem wrs_hp {h : H} {id g o : Nat} {vs : List V} : H.wrs h (.hp id g o) vs = (match h.m id with
    | .own cs e => if cs.length = g ∧ o + vs.length ≤ cs.length then some (h.put id (.own (splice cs o vs) e)) else none
    | _ => none) := rfl
/-- Cells of the call's own, written down. -/
theorem rd_own {l : Leaf} {sl : List Slot} {id g o e : Nat} {cs : List V} (hs : sl[id]? = some (.own cs e)) (hg : cs.length = g) : rdT (.leaf l) (hL sl) (.hp id g o) = (cs[o]?).bind l.pack := by
  rw [rd_hp, hL_m, hs]; simp [hg]
theorem wrs_own {sl : List Slot} {id g o e : Nat} {cs vs : List V} (hs : sl[id]? = some (.own cs e)) (hg : cs.length = g) (ho : o + vs.length ≤ g) : H.wrs (hL sl) (.hp id g o) vs = some (hL (sl.set id (.own (splice cs o vs) e))) := by
  rw [wrs_hp, hL_m, hs]
  simp only [Option.getD_some]
  rw [if_pos ⟨hg, by omega⟩, hL_put (List.getElem?_eq_some_iff.1 hs).1]
/-- A full slice of the call's own. -/
def ownSV (id : Nat) (ls : List Leaf) (n : Nat) : SV := ⟨.hp id (n * ls.length) 0, n, n, true⟩
def nilSV : SV := ⟨.nil, 0, 0, false⟩
/-- The cells of some elements. -/
abbrev cellsL (ls : List Leaf) (xs : List (LT ls)) : List V := xs.flatMap fun x => LT.lo true ls x
theorem from_own {sl : List Slot} {id e n : Nat} {ls : List Leaf} {xs : List (LT ls)} (hs : sl[id]? = some (.own (cellsL ls xs) e)) (hn : xs.length * ls.length = n) (o : Nat) : (hL sl).from (.hp id n o) = some ((cellsL ls xs).drop o) := by
  simp only [H.from, hL_m, hs, Option.getD_some]
  rw [if_pos (by rw [flat_length, hn])]
/-- One cell of an element. -/
theorem rd_ownL {ls : List Leaf} {xs : List (LT ls)} {l : Leaf} {sl : List Slot} {id e n i w o : Nat} (hs : sl[id]? = some (.own (cellsL ls xs) e)) (hn : xs.length * ls.length = n) (hw : ls.length = w) (ho : o < w) :
    rdT (.leaf l) (hL sl) (.hp id n (i * w + o)) = (xs[i]?).bind fun x => ((LT.lo true ls x)[o]?).bind l.pack := by
  subst hw
  simp only [rdT, H.rd, from_own hs hn, Option.bind_some, List.head?_drop]
  rw [flat_get ho, Option.bind_assoc]
theorem rd_ownL0 {ls : List Leaf} {xs : List (LT ls)} {l : Leaf} {sl : List Slot} {id e n i w : Nat} (hs : sl[id]? = some (.own (cellsL ls xs) e)) (hn : xs.length * ls.length = n) (hw : ls.length = w) (ho : 0 < w) :
    rdT (.leaf l) (hL sl) (.hp id n (i * w)) = (xs[i]?).bind fun x => ((LT.lo true ls x)[0]?).bind l.pack := rd_ownL (o := 0) hs hn hw ho
theorem rds_ownL {ls : List Leaf} {xs : List (LT ls)} {ms : List Leaf} {sl : List Slot} {id e n i w : Nat} (hs : sl[id]? = some (.own (cellsL ls xs) e)) (hn : xs.length * ls.length = n) (hw : ls.length = w) (hm : ms.length = w) (ho : 0 < w) :
    rdT (.agg ms) (hL sl) (.hp id n (i * w)) = (xs[i]?).bind fun x => LT.pack ms (LT.lo true ls x) := by
  subst hw
  simp only [rdT, H.rds, from_own hs hn, Option.bind_some, flat_drop]
  cases hx : xs[i]? with
  | none =>
    have : xs.length ≤ i := List.getElem?_eq_none_iff.1 hx
    rw [List.drop_eq_nil_of_le this]
    simp
  | some x =>
    obtain ⟨hlt, rfl⟩ := List.getElem?_eq_some_iff.1 hx
    rw [List.drop_eq_getElem_cons hlt, List.flatMap_cons, hm]
    rw [if_pos ⟨by simp [LT.lo_length], by omega⟩]
    rw [List.take_left' (LT.lo_length ls _)]
    rfl
/-- The elements of a slice of the call's own. -/
theorem rdRow_own {lp : Bool} {ls : List Leaf} {xs : List (LT ls)} {sl : List Slot} {id e n c : Nat} {t : Bool} (hs : sl[id]? = some (.own (cellsL ls xs) e)) (hn : xs.length * ls.length = n) (hp : Leaf.plain (.row ls) = true) :
    rdRow lp (hL sl) ls ⟨.hp id n 0, xs.length, c, t⟩ = some xs := by
  have hp' := hp
  simp only [Leaf.plain, Bool.and_eq_true] at hp
  have hpos : 0 < ls.length := by cases ls <;> simp_all
  cases xs with
  | nil => exact rdRow_nil
  | cons x xs =>
    have h1 : rdRow lp (hL sl) ls ⟨.hp id n 0, (x :: xs).length, c, t⟩ = mapO (fun c => rdLT lp (hL sl) ls c) (chunks ls.length (x :: xs).length (cellsL ls (x :: xs))) := by
      simp only [rdRow, rdLeaf, V.readable, cond_true, H.rds, from_own hs hn, List.drop_zero, Option.bind_some]
      rw [if_neg (by simp), if_pos ⟨by rw [flat_length]; exact Nat.le_refl _, by rw [List.length_cons]; exact Nat.ne_of_gt (Nat.mul_pos (by omega) hpos)⟩]
      rw [List.take_of_length_le (by rw [flat_length]; exact Nat.le_refl _), Option.bind_some]
    rw [h1, chunks_flat]
    have : ∀ (ys : List (LT ls)), mapO (fun c => rdLT lp (hL sl) ls c) (ys.map fun x => LT.lo true ls x) = some ys := fun ys => by
      induction ys with
      | nil => rfl
      | cons y ys ih => simp only [List.map_cons, mapO, rdLT_lo (f := true) (by simp) ls y hp.2, Option.bind_some, ih]
    exact this _
theorem splice_flat {ls : List Leaf} : ∀ (xs : List (LT ls)) (i : Nat) (x : LT ls), i < xs.length → splice (cellsL ls xs) (i * ls.length) (LT.lo true ls x) = cellsL ls (xs.set i x) := by
  intro xs i x hi
  unfold splice cellsL
  rw [LT.lo_length, ← Nat.succ_mul, flat_drop]
  have h1 : (xs.flatMap fun x => LT.lo true ls x).take (i * ls.length) = (xs.take i).flatMap fun x => LT.lo true ls x := by
    have := congrArg (fun l => l.flatMap fun x => LT.lo true ls x) (List.take_append_drop i xs)
    simp only [List.flatMap_append] at this
    rw [← this, List.take_left']
    rw [flat_length, List.length_take, Nat.min_eq_left (by omega)]
  rw [h1, List.set_eq_take_append_cons_drop, if_pos hi]
  simp
/-- An element is written. -/
theorem wrs_ownL {ls : List Leaf} {xs : List (LT ls)} {sl : List Slot} {id e n i w : Nat} {x : LT ls} {vs : List V} (hs : sl[id]? = some (.own (cellsL ls xs) e)) (hn : xs.length * ls.length = n) (hw : ls.length = w) (hi : i < xs.length) (hv : vs = LT.lo true ls x) :
    H.wrs (hL sl) (.hp id n (i * w)) vs = some (hL (sl.set id (.own (cellsL ls (xs.set i x)) e))) := by
  subst hw; subst hv
  rw [wrs_own (cs := cellsL ls xs) hs (by rw [flat_length, hn]) (by
    rw [LT.lo_length, ← hn, ← Nat.succ_mul]
    exact Nat.mul_le_mul_right _ hi), splice_flat xs i x hi]
/-- An element behind all others. -/
theorem append_own {ls : List Leaf} {xs : List (LT ls)} {sl : List Slot} {id w b : Nat} {at_ : Option Nat} {x : LT ls} {vs : List V} (hs : sl[id]? = some (.own (cellsL ls xs) w)) (hw : ls.length = w) (hpos : 0 < w) (hx : 0 < xs.length) (hl : xs.length + 1 ≤ 2 ^ 36) (hb : b ≤ 2 ^ 11) (hv : vs = LT.lo true ls x) :
    appendS (hL sl) at_ w b (ownSV id ls xs.length) vs 1 = some (ownSV id ls (xs ++ [x]).length, hL (sl.set id (.own (cellsL ls (xs ++ [x])) w))) := by
  subst hw; subst hv
  simp only [appendS, appendV, ownSV, hL_m, hs, Option.getD_some]
  rw [if_neg (by omega), guardO_pos ⟨by unfold roomCells; exact hl, hb⟩, if_neg (by omega), if_neg (by omega), if_pos ⟨trivial, trivial, flat_length xs, trivial, trivial, Nat.le_refl _, hpos⟩]
  rw [hL_put (List.getElem?_eq_some_iff.1 hs).1, List.take_of_length_le (by rw [flat_length]; exact Nat.le_refl _)]
  simp [cellsL]
theorem append_nil {ls : List Leaf} {sl : List Slot} {w b : Nat} {x : LT ls} {vs : List V} (hw : ls.length = w) (hb : b ≤ 2 ^ 11) (hv : vs = LT.lo true ls x) :
    appendS (hL sl) none w b nilSV vs 1 = some (ownSV sl.length ls [x].length, hL (sl ++ [.own (cellsL ls [x]) w])) := by
  subst hw; subst hv
  simp only [appendS, appendV, nilSV, newAt]
  rw [if_neg (by omega), guardO_pos ⟨by unfold roomCells; omega, hb⟩, if_pos ⟨trivial, trivial, trivial⟩, hL_new]
  simp [ownSV, cellsL, hL_next]
/-- A slice that grows, alone behind some other blocks. -/
def accS (id : Nat) (ls : List Leaf) (xs : List (LT ls)) : SV := if xs.length = 0 then nilSV else ownSV id ls xs.length
def accH (sl : List Slot) (ls : List Leaf) (xs : List (LT ls)) : H := if xs.length = 0 then hL sl else hL (sl ++ [.own (cellsL ls xs) ls.length])
theorem acc_nil {sl : List Slot} {id : Nat} {ls : List Leaf} : accS id ls [] = ⟨.nil, 0, 0, false⟩ ∧ accH sl ls [] = hL sl := ⟨rfl, rfl⟩
theorem acc_append {ls : List Leaf} {xs : List (LT ls)} {sl : List Slot} {w b : Nat} {x : LT ls} {vs : List V} (hw : ls.length = w) (hpos : 0 < w) (hl : xs.length + 1 ≤ 2 ^ 36) (hb : b ≤ 2 ^ 11) (hv : vs = LT.lo true ls x) :
    appendS (accH sl ls xs) none w b (accS sl.length ls xs) vs 1 = some (accS sl.length ls (xs ++ [x]), accH sl ls (xs ++ [x])) := by
  subst hw
  unfold accS accH
  rw [if_neg (c := (xs ++ [x]).length = 0) (by simp), if_neg (c := (xs ++ [x]).length = 0) (by simp)]
  by_cases h : xs.length = 0
  · have : xs = [] := List.eq_nil_of_length_eq_zero h
    subst this
    simp only [List.length_nil, if_true, List.nil_append]
    exact append_nil rfl hb hv
  · rw [if_neg h, if_neg h]
    rw [append_own (xs := xs) (x := x) (by simp) rfl hpos (by omega) hl hb hv]
    simp
theorem acc_read {lp : Bool} {ls : List Leaf} {xs : List (LT ls)} {sl : List Slot} (hp : Leaf.plain (.row ls) = true) : rdRow lp (accH sl ls xs) ls (accS sl.length ls xs) = some xs := by
  unfold accS accH
  by_cases h : xs.length = 0
  · have : xs = [] := List.eq_nil_of_length_eq_zero h
    subst this
    exact rdRow_nil
  · rw [if_neg h, if_neg h]
    exact rdRow_own (e := ls.length) (by simp) rfl hp
theorem acc_len {id : Nat} {ls : List Leaf} {xs : List (LT ls)} : (accS id ls xs).len = xs.length := by
  unfold accS
  split
  · rename_i h; rw [h]; rfl
  · rfl

/-- A slice that grows, somewhere in the heap; 'o' is its block. -/
def Acc (sl : List Slot) (ls : List Leaf) (xs : List (LT ls)) (s : SV) (o : Option Nat) : Prop :=
  match o with
  | none => xs = [] ∧ (s = nilSV ∨ s = ⟨.lp true [] 0, 0, 0, false⟩)
  | some id => 0 < xs.length ∧ s = ownSV id ls xs.length ∧ sl[id]? = some (.own (cellsL ls xs) ls.length)
theorem Acc.nil {sl : List Slot} {ls : List Leaf} : Acc sl ls [] ⟨.nil, 0, 0, false⟩ none := ⟨rfl, .inl rfl⟩
theorem Acc.nil' {sl : List Slot} {ls : List Leaf} : Acc sl ls [] ⟨.lp true [] 0, 0, 0, false⟩ none := ⟨rfl, .inr rfl⟩
theorem Acc.lt {sl : List Slot} {ls : List Leaf} {xs : List (LT ls)} {s : SV} {id : Nat} (h : Acc sl ls xs s (some id)) : id < sl.length := (List.getElem?_eq_some_iff.1 h.2.2).1
theorem Acc.frame {sl sl' : List Slot} {ls : List Leaf} {xs : List (LT ls)} {s : SV} {o : Option Nat} (h : Acc sl ls xs s o) (hf : ∀ id, o = some id → sl'[id]? = sl[id]?) : Acc sl' ls xs s o := by
  cases o with
  | none => exact h
  | some id => exact ⟨h.1, h.2.1, by rw [hf id rfl]; exact h.2.2⟩
theorem Acc.more {sl sl' : List Slot} {ls : List Leaf} {xs : List (LT ls)} {s : SV} {o : Option Nat} (h : Acc sl ls xs s o) : Acc (sl ++ sl') ls xs s o :=
  h.frame fun id hid => by subst hid; rw [List.getElem?_append_left h.lt]
theorem Acc.read {lp : Bool} {sl : List Slot} {ls : List Leaf} {xs : List (LT ls)} {s : SV} {o : Option Nat} (h : Acc sl ls xs s o) (hp : Leaf.plain (.row ls) = true) : rdRow lp (hL sl) ls s = some xs := by
  cases o with
  | none => obtain ⟨rfl, rfl | rfl⟩ := h <;> exact rdRow_nil
  | some id => obtain ⟨h1, rfl, h3⟩ := h; exact rdRow_own h3 rfl hp
theorem Acc.len {sl : List Slot} {ls : List Leaf} {xs : List (LT ls)} {s : SV} {o : Option Nat} (h : Acc sl ls xs s o) : s.len = xs.length := by
  cases o with
  | none => obtain ⟨rfl, rfl | rfl⟩ := h <;> rfl
  | some id => obtain ⟨h1, rfl, h3⟩ := h; rfl
theorem Acc.append {sl : List Slot} {ls : List Leaf} {xs : List (LT ls)} {s : SV} {o : Option Nat} {w b : Nat} {x : LT ls} {vs : List V} (h : Acc sl ls xs s o) (hw : ls.length = w) (hpos : 0 < w) (hl : xs.length + 1 ≤ 2 ^ 36) (hb : b ≤ 2 ^ 11) (hv : vs = LT.lo true ls x) :
    ∃ s' sl' id, appendS (hL sl) none w b s vs 1 = some (s', hL sl') ∧ Acc sl' ls (xs ++ [x]) s' (some id) ∧ (o = some id ∨ o = none ∧ id = sl.length) ∧ sl.length ≤ sl'.length ∧ ∀ j, o ≠ some j → j < sl.length → sl'[j]? = sl[j]? := by
  subst hw
  cases o with
  | none =>
    obtain ⟨rfl, hs⟩ := h
    refine ⟨ownSV sl.length ls [x].length, sl ++ [.own (cellsL ls [x]) ls.length], sl.length, ?_, ⟨by simp, rfl, ?_⟩, .inr ⟨rfl, rfl⟩, ?_, fun j _ hj => ?_⟩
    · have h1 := append_nil (ls := ls) (sl := sl) (x := x) (w := ls.length) (b := b) rfl hb hv
      rcases hs with rfl | rfl
      · exact h1
      · rw [← h1]
        simp only [appendS, appendV, nilSV]
        rw [if_neg (show ¬ (1 = 0) by omega), if_neg (show ¬ (1 = 0) by omega)]
        rw [if_pos ⟨trivial, trivial, trivial⟩, if_pos ⟨trivial, trivial, trivial⟩]
    · simp
    · simp
    · exact List.getElem?_append_left hj
  | some id =>
    obtain ⟨h1, rfl, h3⟩ := h
    have hid := (List.getElem?_eq_some_iff.1 h3).1
    refine ⟨ownSV id ls (xs ++ [x]).length, sl.set id (.own (cellsL ls (xs ++ [x])) ls.length), id, append_own h3 rfl hpos h1 hl hb hv, ⟨by simp, rfl, ?_⟩, .inl rfl, by simp, fun j hj hlt => ?_⟩
    · rw [List.getElem?_set_self hid]
    · rw [List.getElem?_set_ne (fun e => hj (by rw [e]))]

/-! ### slices.Clone -/

theorem flat_flag {f g : Bool} : ∀ (ls : List Leaf) (x : LT ls), LT.flat ls = true → LT.lo f ls x = LT.lo g ls x
  | [], x, _ => rfl
  | [l], x, h => by cases l <;> simp_all [LT.flat, LT.lo, Leaf.lo]
  | l :: l' :: ls, x, h => by
    have h1 : l.lo f x.1 = l.lo g x.1 ∧ LT.flat (l' :: ls) = true := by cases l <;> simp_all [LT.flat, Leaf.lo]
    simp only [LT.lo, h1.1]
    rw [flat_flag (l' :: ls) x.2 h1.2]
theorem flat_plain : ∀ (ls : List Leaf), LT.flat ls = true → LT.plain ls = true
  | [], _ => rfl
  | l :: ls, h => by
    have h1 : l.plain = true ∧ LT.flat ls = true := by cases l <;> simp_all [LT.flat, Leaf.plain]
    simp [LT.plain, h1.1, flat_plain ls h1.2]
/-- What a copy of some elements is. -/
theorem cloneX_row {f : Bool} {ls : List Leaf} {xs : List (LT ls)} {w b : Nat} {sl : List Slot} (hw : ls.length = w) (hpos : 0 < w) (hf : LT.flat ls = true) (hl : xs.length ≤ 2 ^ 36) (hb : b ≤ 2 ^ 11) :
    cloneX w b (rowSV f ls xs) (hL sl) = some (if xs.length = 0 then ⟨.lp true [] 0, 0, 0, false⟩ else ownSV sl.length ls xs.length, if xs.length = 0 then hL sl else hL (sl ++ [.own (cellsL ls xs) w])) := by
  subst hw
  unfold cloneX
  rw [rowSV_len]
  by_cases h : xs.length = 0
  · rw [if_pos h, if_pos h, if_pos h]
  · rw [if_neg h, if_neg h, if_neg h]
    have hc : cellsOf (hL sl) (.slice (rowSV f ls xs).a xs.length (rowSV f ls xs).cap (rowSV f ls xs).tail) ls.length = some (xs.length, cellsL ls xs) := by
      simp only [cellsOf, if_neg h, H.rds, rowSV, H.from, List.drop_zero, Option.bind_some]
      rw [if_pos ⟨by rw [flat_length]; exact Nat.le_refl _, Nat.ne_of_gt (Nat.mul_pos (by omega) hpos)⟩, List.take_of_length_le (by rw [flat_length]; exact Nat.le_refl _)]
      simp only [Option.map_some, Option.some.injEq, Prod.mk.injEq, true_and, cellsL]
      congr 1
      funext x
      exact flat_flag ls x hf
    rw [hc]
    simp only [Option.bind_some, appendS, appendV, newAt]
    rw [if_neg h, guardO_pos ⟨by unfold roomCells; omega, hb⟩, if_pos ⟨trivial, trivial, trivial⟩, hL_new]
    rfl
theorem cloneP_ok {P : Program} {f : FuncId} {ls : List Leaf} {w b : Nat} (hok : EntryOK P f (mkX [.leaf .slice] (.one (.leaf .slice)) (cloneX w b))) (hw : ls.length = w) (hpos : 0 < w) (hf : LT.flat ls = true) :
    EntryOK P f (mkP [.leaf (.row ls)] (.one (.leaf (.row ls))) (cloneP b)) := by
  refine mkP_of fun xs r hr => ?_
  have hr' := hr
  unfold cloneP at hr
  obtain ⟨⟨h1, h2⟩, hr⟩ := guardO_some hr
  cases hr
  have hx := cloneX_row (f := false) (xs := xs) (sl := []) hw hpos hf h1 h2
  rw [← hL_empty] at hx
  have hcall := (hok [.slice (rowSV false ls xs).a (rowSV false ls xs).len (rowSV false ls xs).cap (rowSV false ls xs).tail] H.empty).2 _ _ (by
    show (cloneX w b (rowSV false ls xs) H.empty).bind _ = _
    rw [hx]
    rfl)
  refine ⟨_, _, hcall.2, ?_⟩
  show rdRow false (if xs.length = 0 then H.empty else hL ([] ++ [.own (cellsL ls xs) w])) ls (if xs.length = 0 then ⟨.lp true [] 0, 0, 0, false⟩ else ownSV 0 ls xs.length) = some xs
  by_cases h : xs.length = 0
  · have : xs = [] := List.eq_nil_of_length_eq_zero h
    subst this
    exact rdRow_nil
  · rw [if_neg h, if_neg h]
    have hp : Leaf.plain (.row ls) = true := by
      simp only [Leaf.plain, flat_plain ls hf, Bool.and_true]
      cases ls with
      | nil => simp at hw; omega
      | cons _ _ => rfl
    exact rdRow_own (e := w) rfl rfl hp
theorem clone_len {α : Type} {b : Nat} {xs : List α} (hl : xs.length ≤ 2 ^ 36) (hb : b ≤ 2 ^ 11) : cloneP b xs = some xs := guardO_pos ⟨hl, hb⟩ _

/-! ### Conditions -/

theorem cond_some {α : Type} {b : Bool} {x y : α} : (bif b then some x else some y) = some (bif b then x else y) := by cases b <;> rfl
theorem cond_pair {α β : Type} {b : Bool} {x y : α} {z : β} : (bif b then (x, z) else (y, z)) = (bif b then x else y, z) := by cases b <;> rfl
theorem cond_same {α : Type} {b : Bool} {x : α} : (bif b then x else x) = x := by cases b <;> rfl
theorem cond_bool {b x : Bool} : (bif b then x else false) = (b && x) := by cases b <;> rfl
theorem cond_bool' {b x : Bool} : (bif b then true else x) = (b || x) := by cases b <;> rfl
theorem cond_not {α : Type} {b : Bool} {x y : α} : (bif !b then x else y) = (bif b then y else x) := by cases b <;> rfl
theorem cond_dec {p : Prop} [Decidable p] {α : Type} {x y : α} : (bif decide p then x else y) = if p then x else y := by by_cases h : p <;> simp [h]
theorem i64_in (n : Int) (h : -9223372036854775808 ≤ n ∧ n ≤ 9223372036854775807) : IntKind.i64.wrap n = n := IntWalk.i64_in n (by omega)
theorem i64_nat {n : Nat} (h : n < 9223372036854775808) : IntKind.i64.wrap (n : Int) = (n : Int) := IntWalk.i64_in _ (by omega)
theorem i64_succ {n : Nat} (h : n < 9223372036854775807) : IntKind.i64.wrap ((n : Int) + 1) = ((n + 1 : Nat) : Int) := IntWalk.i64_in _ (by omega)
theorem minI_eq (x y : Int) : minI y x = min x y := by unfold minI; split <;> omega
theorem maxI_eq (x y : Int) : maxI y x = max x y := by unfold maxI; split <;> omega
theorem rdRes_one {h : H} {t : Ty} {v : V} : rdRes false h (.one t) v = rdTy false h t v := rfl
theorem rdTy_leaf {h : H} {l : Leaf} {v : V} : rdTy false h (.leaf l) v = rdLeaf false h l v := rfl
theorem rdTy_agg {h : H} {ls : List Leaf} {vs : List V} : rdTy false h (.agg ls) (.agg vs) = rdLT false h ls vs := rfl
theorem rdLeaf_int {lp : Bool} {h : H} {k : IntKind} {n : Int} : rdLeaf lp h (.int k) (.int k n) = some n := by simp [rdLeaf]
theorem rdLeaf_bool {lp : Bool} {h : H} {b : Bool} : rdLeaf lp h .bool (.bool b) = some b := rfl
theorem rdLeaf_str {lp : Bool} {h : H} {b : ByteArray} : rdLeaf lp h .str (.str b) = some b := rfl
theorem rdLeaf_row {lp : Bool} {h : H} {ls : List Leaf} {a : V} {n c : Nat} {t : Bool} : rdLeaf lp h (.row ls) (.slice a n c t) = rdRow lp h ls ⟨a, n, c, t⟩ := rfl
theorem rdRow_i1 {h : H} {k : IntKind} {a : Int} {t : Bool} : rdRow true h [.int k] ⟨.lp true [.int k a] 0, 1, 1, t⟩ = some [a] := rdRow_res (xs := ([a] : List (LT [.int k]))) rfl
theorem rdRow_i2 {h : H} {k : IntKind} {a b : Int} {t : Bool} : rdRow true h [.int k] ⟨.lp true [.int k a, .int k b] 0, 2, 2, t⟩ = some [a, b] := rdRow_res (xs := ([a, b] : List (LT [.int k]))) rfl
theorem rdRow_i3 {h : H} {k : IntKind} {a b c : Int} {t : Bool} : rdRow true h [.int k] ⟨.lp true [.int k a, .int k b, .int k c] 0, 3, 3, t⟩ = some [a, b, c] := rdRow_res (xs := ([a, b, c] : List (LT [.int k]))) rfl
theorem rdRow_i4 {h : H} {k : IntKind} {a b c d : Int} {t : Bool} : rdRow true h [.int k] ⟨.lp true [.int k a, .int k b, .int k c, .int k d] 0, 4, 4, t⟩ = some [a, b, c, d] := rdRow_res (xs := ([a, b, c, d] : List (LT [.int k]))) rfl
theorem rdRow_i5 {h : H} {k : IntKind} {a b c d e : Int} {t : Bool} : rdRow true h [.int k] ⟨.lp true [.int k a, .int k b, .int k c, .int k d, .int k e] 0, 5, 5, t⟩ = some [a, b, c, d, e] := rdRow_res (xs := ([a, b, c, d, e] : List (LT [.int k]))) rfl
/-! ### Laws of every step, in one -/
theorem evs : type_of% (And.intro (And.intro (And.intro (And.intro (And.intro (@Option.bind_some.{0, 0}) (@Option.bind_none.{0, 0})) (And.intro (@Option.map_some.{0, 0}) (@Option.map_none.{0, 0}))) (And.intro (And.intro (@cond_true.{1}) (@cond_false.{1})) (And.intro (@Bool.not_true) (@Bool.not_false)))) (And.intro (And.intro (And.intro (@if_true.{1}) (@if_false.{1})) (And.intro (@rdLeaf_int) (@rdLeaf_bool))) (And.intro (And.intro (@rdLeaf_str) (@rdLeaf_row)) (And.intro (@rdRow_i1) (And.intro (@rdRow_i2) (@rdRow_i3)))))) (And.intro (And.intro (And.intro (And.intro (@rdRow_i4) (@rdRow_i5)) (And.intro (@rdRow_args) (@rdRow_res))) (And.intro (And.intro (@rdRow_nil) (@List.isEmpty_cons.{0})) (And.intro (@Bool.and_self) (And.intro (@Bool.and_true) (@Bool.true_and))))) (And.intro (And.intro (And.intro (@Bool.or_true) (@Bool.true_or)) (And.intro (@Bool.or_false) (@Bool.false_or))) (And.intro (And.intro (@reserve0) (@rowSV_len)) (And.intro (@rowSV_cap) (And.intro (@rowSV_tail) (@guardO_true))))))) := And.intro (And.intro (And.intro (And.intro (And.intro (@Option.bind_some.{0, 0}) (@Option.bind_none.{0, 0})) (And.intro (@Option.map_some.{0, 0}) (@Option.map_none.{0, 0}))) (And.intro (And.intro (@cond_true.{1}) (@cond_false.{1})) (And.intro (@Bool.not_true) (@Bool.not_false)))) (And.intro (And.intro (And.intro (@if_true.{1}) (@if_false.{1})) (And.intro (@rdLeaf_int) (@rdLeaf_bool))) (And.intro (And.intro (@rdLeaf_str) (@rdLeaf_row)) (And.intro (@rdRow_i1) (And.intro (@rdRow_i2) (@rdRow_i3)))))) (And.intro (And.intro (And.intro (And.intro (@rdRow_i4) (@rdRow_i5)) (And.intro (@rdRow_args) (@rdRow_res))) (And.intro (And.intro (@rdRow_nil) (@List.isEmpty_cons.{0})) (And.intro (@Bool.and_self) (And.intro (@Bool.and_true) (@Bool.true_and))))) (And.intro (And.intro (And.intro (@Bool.or_true) (@Bool.true_or)) (And.intro (@Bool.or_false) (@Bool.false_or))) (And.intro (And.intro (@reserve0) (@rowSV_len)) (And.intro (@rowSV_cap) (And.intro (@rowSV_tail) (@guardO_true))))))
theorem evh : type_of% (And.intro (And.intro (And.intro (And.intro (And.intro (@hL_empty) (@hL_new)) (And.intro (@hL_next) (And.intro (@hL_put) (@hL_reserve)))) (And.intro (And.intro (@rd_hp) (@rds_hp)) (And.intro (@wrs_hp) (And.intro (@hL_m) (@List.nil_append.{0}))))) (And.intro (And.intro (And.intro (@List.cons_append.{0}) (@List.append_nil.{0})) (And.intro (@List.getElem?_cons_zero.{0}) (And.intro (@List.getElem?_cons_succ.{0}) (@Option.getD_some.{0})))) (And.intro (And.intro (@List.length_cons.{0}) (@List.length_nil.{0})) (And.intro (@List.length_append.{0}) (And.intro (@List.take_zero.{0}) (@List.take_succ_cons.{0})))))) (And.intro (And.intro (And.intro (And.intro (@List.take_nil.{0}) (@List.drop_zero.{0})) (And.intro (@List.drop_succ_cons.{0}) (And.intro (@List.drop_nil.{0}) (@List.set_cons_zero.{0})))) (And.intro (And.intro (@List.set_cons_succ.{0}) (@Nat.zero_add)) (And.intro (@Nat.add_zero) (And.intro (@Nat.zero_le) (@Nat.le_refl))))) (And.intro (And.intro (And.intro (@and_self) (@and_true)) (And.intro (@true_and) (And.intro (@Nat.lt_add_one) (@Nat.zero_lt_succ)))) (And.intro (And.intro (@ne_eq.{1}) (@not_false_eq_true)) (And.intro (@Nat.succ_ne_zero) (And.intro (@List.flatMap_cons.{0, 0}) (@List.flatMap_nil.{0, 0}))))))) := And.intro (And.intro (And.intro (And.intro (And.intro (@hL_empty) (@hL_new)) (And.intro (@hL_next) (And.intro (@hL_put) (@hL_reserve)))) (And.intro (And.intro (@rd_hp) (@rds_hp)) (And.intro (@wrs_hp) (And.intro (@hL_m) (@List.nil_append.{0}))))) (And.intro (And.intro (And.intro (@List.cons_append.{0}) (@List.append_nil.{0})) (And.intro (@List.getElem?_cons_zero.{0}) (And.intro (@List.getElem?_cons_succ.{0}) (@Option.getD_some.{0})))) (And.intro (And.intro (@List.length_cons.{0}) (@List.length_nil.{0})) (And.intro (@List.length_append.{0}) (And.intro (@List.take_zero.{0}) (@List.take_succ_cons.{0})))))) (And.intro (And.intro (And.intro (And.intro (@List.take_nil.{0}) (@List.drop_zero.{0})) (And.intro (@List.drop_succ_cons.{0}) (And.intro (@List.drop_nil.{0}) (@List.set_cons_zero.{0})))) (And.intro (And.intro (@List.set_cons_succ.{0}) (@Nat.zero_add)) (And.intro (@Nat.add_zero) (And.intro (@Nat.zero_le) (@Nat.le_refl))))) (And.intro (And.intro (And.intro (@and_self) (@and_true)) (And.intro (@true_and) (And.intro (@Nat.lt_add_one) (@Nat.zero_lt_succ)))) (And.intro (And.intro (@ne_eq.{1}) (@not_false_eq_true)) (And.intro (@Nat.succ_ne_zero) (And.intro (@List.flatMap_cons.{0, 0}) (@List.flatMap_nil.{0, 0}))))))
end Go.Proofs.YtjkjcnadgpndoaaGreat.Ev
