/- How an amount is divided by weights, in plain numbers. Conditions: those of each law. -/
import Derived.Test.YtaepkinihaipkaaS01y
namespace Go.Proofs.Ytaepkinihaipkaa
open Go Go.Proofs.Ytaepkinihaipkaa.Ev
set_option linter.unusedVariables false
set_option linter.unusedSimpArgs false
set_option maxRecDepth 100000
set_option maxHeartbeats 2000000
theorem g_eq {xs : List Int} {k : Nat} (h : k < xs.length) : g xs k = xs[k] := by rw [g, List.getElem?_eq_getElem h]; rfl
theorem g_ext {xs ys : List Int} (hl : xs.length = ys.length) (h : ∀ k, k < xs.length → g xs k = g ys k) : xs = ys := by
  refine List.ext_getElem hl fun k h1 h2 => ?_
  rw [← g_eq h1, ← g_eq h2]; exact h k h1
theorem g_map {f : Int → Int} {xs : List Int} {k : Nat} (h : k < xs.length) : g (xs.map f) k = f (g xs k) := by
  rw [g_eq (by simpa using h), List.getElem_map, g_eq h]
theorem g_ofFn {f : Nat → Int} {n k : Nat} (h : k < n) : g ((List.range n).map f) k = f k := by
  rw [g_eq (by simpa using h), List.getElem_map, List.getElem_range]
theorem g_mem {xs : List Int} {k : Nat} (h : k < xs.length) : g xs k ∈ xs := by rw [g_eq h]; exact List.getElem_mem h
theorem mem_g {xs : List Int} {x : Int} (h : x ∈ xs) : ∃ k, k < xs.length ∧ g xs k = x := by
  obtain ⟨k, hk, e⟩ := List.getElem_of_mem h
  exact ⟨k, hk, by rw [g_eq hk, e]⟩
/-- The places 0, 1, .. -/
def iota (n : Nat) : List Int := (List.range n).map fun k : Nat => (k : Int)
theorem iota_length {n : Nat} : (iota n).length = n := by simp [iota]
theorem g_iota {n k : Nat} (h : k < n) : g (iota n) k = (k : Int) := g_ofFn h
theorem mem_iota {n : Nat} {x : Int} : x ∈ iota n ↔ 0 ≤ x ∧ x < n := by
  simp only [iota, List.mem_map, List.mem_range]
  constructor
  · rintro ⟨k, hk, rfl⟩; omega
  · intro h; exact ⟨x.toNat, by omega, by omega⟩
theorem iota_nodup {n : Nat} : (iota n).Nodup := by
  unfold iota
  rw [List.nodup_iff_pairwise_ne, List.pairwise_map]
  exact List.Pairwise.imp (fun h => by omega) List.pairwise_lt_range
/-- The greater rest comes first, then the lesser place. -/
def ltR (rs : List Int) (x y : Int) : Prop := g rs y.toNat < g rs x.toNat ∨ (g rs x.toNat = g rs y.toNat ∧ x < y)
instance (rs : List Int) (x y : Int) : Decidable (ltR rs x y) := by unfold ltR; exact inferInstance
theorem ltR_trans {rs : List Int} (x y z : Int) (h1 : ltR rs x y) (h2 : ltR rs y z) : ltR rs x z := by unfold ltR at *; omega
theorem ltR_total {rs : List Int} {x y : Int} (h : x ≠ y) : ltR rs x y ∨ ltR rs y x := by unfold ltR at *; omega
theorem ltR_irrefl {rs : List Int} {x : Int} : ¬ ltR rs x x := by unfold ltR; omega
/-- The places in the order of their rests. -/
def ord (rs : List Int) : List Int := (iota rs.length).mergeSort fun x y => !decide (ltR rs y x)
theorem ord_perm {rs : List Int} : (ord rs).Perm (iota rs.length) := List.mergeSort_perm ..
theorem ord_length {rs : List Int} : (ord rs).length = rs.length := by rw [ord_perm.length_eq, iota_length]
theorem ord_nodup {rs : List Int} : (ord rs).Nodup := (ord_perm.nodup_iff).2 iota_nodup
theorem ord_pairwise {rs : List Int} : (ord rs).Pairwise (ltR rs) := by
  have h1 : (ord rs).Pairwise fun x y => (!decide (ltR rs y x)) = true := List.pairwise_mergeSort (fun a b c => by
    simp only [Bool.not_eq_true', decide_eq_false_iff_not]
    unfold ltR; omega) (fun a b => by
    simp only [Bool.or_eq_true, Bool.not_eq_true', decide_eq_false_iff_not]
    unfold ltR; omega) _
  have h2 := ord_nodup (rs := rs)
  rw [List.nodup_iff_pairwise_ne] at h2
  refine List.Pairwise.imp₂ (fun a b h1 h2 => ?_) h1 h2
  simp only [Bool.not_eq_true', decide_eq_false_iff_not] at h1
  rcases ltR_total (rs := rs) h2 with h | h
  · exact h
  · exact absurd h h1
theorem ord_uniq {rs ys : List Int} (hp : ys.Perm (iota rs.length)) (hs : ∀ p q, p < q → q < rs.length → ltR rs (g ys p) (g ys q)) : ys = ord rs := by
  have hl : ys.length = rs.length := by rw [hp.length_eq, iota_length]
  refine List.Perm.eq_of_pairwise (le := ltR rs) (fun a b _ _ h1 h2 => ?_) ?_ ord_pairwise (hp.trans ord_perm.symm)
  · exact absurd (ltR_trans _ _ _ h1 h2) ltR_irrefl
  · rw [List.pairwise_iff_getElem]
    intro i j hi hj hij
    have := hs i j hij (by omega)
    rwa [g_eq hi, g_eq hj] at this
theorem ord_lt {rs : List Int} {p q : Nat} (h : p < q) (hq : q < rs.length) : ltR rs (g (ord rs) p) (g (ord rs) q) := by
  have := ord_pairwise (rs := rs)
  rw [List.pairwise_iff_getElem] at this
  have h2 := this p q (by rw [ord_length]; omega) (by rw [ord_length]; omega) h
  rwa [← g_eq, ← g_eq] at h2
theorem ord_range {rs : List Int} {p : Nat} (h : p < rs.length) : 0 ≤ g (ord rs) p ∧ g (ord rs) p < rs.length := by
  have := g_mem (xs := ord rs) (k := p) (by rw [ord_length]; exact h)
  exact mem_iota.1 (ord_perm.mem_iff.1 this)
/-- Numbers with one more at the first places of an order. -/
def bump (qs os : List Int) (k : Nat) : List Int := (List.range qs.length).map fun i => g qs i + if (i : Int) ∈ os.take k then 1 else 0
theorem bump_length {qs os : List Int} {k : Nat} : (bump qs os k).length = qs.length := by simp [bump]
theorem g_bump {qs os : List Int} {k i : Nat} (h : i < qs.length) : g (bump qs os k) i = g qs i + if (i : Int) ∈ os.take k then 1 else 0 := g_ofFn h
theorem bump_zero {qs os : List Int} : bump qs os 0 = qs := g_ext bump_length fun k hk => by
  rw [bump_length] at hk
  rw [g_bump hk]; simp
theorem bump_succ {qs os : List Int} {k x : Nat} (hn : os.Nodup) (hk : k < os.length) (hx : g os k = (x : Int)) (hq : x < qs.length) : (bump qs os k).set x (g (bump qs os k) x + 1) = bump qs os (k + 1) := by
  refine g_ext (by simp [bump_length]) fun i hi => ?_
  rw [List.length_set, bump_length] at hi
  rw [g_set (by rw [bump_length]; exact hq)]
  have ht : os.take (k + 1) = os.take k ++ [(x : Int)] := by rw [← List.take_append_getElem hk, ← g_eq hk, hx]
  have hnot : (x : Int) ∉ os.take k := by
    intro hm
    have h2 : (os.take (k + 1)).Nodup := List.Nodup.sublist (List.take_sublist _ _) hn
    rw [ht, List.nodup_append] at h2
    exact h2.2.2 _ hm _ (by simp) rfl
  by_cases e : i = x
  · subst e
    rw [if_pos rfl, g_bump hi, g_bump hi, ht, if_neg hnot, if_pos (by simp)]
    omega
  · rw [if_neg e, g_bump hi, g_bump hi, ht]
    congr 1
    by_cases h : (i : Int) ∈ os.take k
    · rw [if_pos h, if_pos (by simp [h])]
    · rw [if_neg h, if_neg (by simp [h]; omega)]
/-- Quotients and rests. -/
def quos (a S : Int) (ws : List Int) : List Int := ws.map fun w => a * w / S
def rems (a S : Int) (ws : List Int) : List Int := ws.map fun w => a * w % S
def divParts (a S : Int) (ws : List Int) : List Int := bump (quos a S ws) (ord (rems a S ws)) (a - (quos a S ws).sum).toNat
def divideOf (a : Int) (ws : List Int) : List Int × Int := if (weighOf a ws).2 = 0 then (divParts a (weighOf a ws).1 ws, 0) else ([], (weighOf a ws).2)
theorem weighOf_ok {a : Int} {ws : List Int} (h : (weighOf a ws).2 = 0) : isAmt a = true ∧ 0 < ws.length ∧ ws.length ≤ 64 ∧ ws.all isAmt = true ∧ isAmt ws.sum = true ∧ ws.sum ≠ 0 ∧ (weighOf a ws).1 = ws.sum := by
  unfold weighOf at *
  split at h
  · rename_i ha
    rw [if_pos ha]
    split at h
    · simp at h
    · rename_i h0
      rw [if_neg h0]
      split at h
      · simp at h
      · rename_i h1
        rw [if_neg h1]
        split at h
        · rename_i h2
          rw [if_pos h2]
          split at h
          · simp at h
          · rename_i h3
            rw [if_neg h3]
            simp only [Bool.and_eq_true] at h2
            exact ⟨ha, by omega, by omega, h2.1, h2.2, h3, rfl⟩
        · simp at h
  · simp at h
theorem quos_length {a S : Int} {ws : List Int} : (quos a S ws).length = ws.length := by simp [quos]
theorem rems_length {a S : Int} {ws : List Int} : (rems a S ws).length = ws.length := by simp [rems]
theorem quo_sum (a S : Int) (ws : List Int) : S * (quos a S ws).sum + (rems a S ws).sum = a * ws.sum := by
  induction ws with
  | nil => simp [quos, rems]
  | cons w ws ih =>
    simp only [quos, rems, List.map_cons, List.sum_cons] at ih ⊢
    rw [Int.mul_add, Int.mul_add a, ← ih]
    have := Int.mul_ediv_add_emod (a * w) S
    omega
theorem rems_bound {a S : Int} (hS : 0 < S) (ws : List Int) : 0 ≤ (rems a S ws).sum ∧ (rems a S ws).sum ≤ ws.length * (S - 1) := by
  induction ws with
  | nil => simp [rems]
  | cons w ws ih =>
    simp only [rems, List.map_cons, List.sum_cons, List.length_cons] at ih ⊢
    have h1 := Int.emod_nonneg (a * w) (show S ≠ 0 by omega)
    have h2 := Int.emod_lt_of_pos (a * w) hS
    have e : ((ws.length + 1 : Nat) : Int) * (S - 1) = (ws.length : Int) * (S - 1) + (S - 1) := by rw [Int.natCast_add, Int.add_mul]; simp
    omega
theorem left_bound {a : Int} {ws : List Int} (hS : 0 < ws.sum) (hl : 0 < ws.length) : 0 ≤ a - (quos a ws.sum ws).sum ∧ a - (quos a ws.sum ws).sum < ws.length := by
  have h1 := quo_sum a ws.sum ws
  obtain ⟨h2, h3⟩ := rems_bound (a := a) hS ws
  generalize (quos a ws.sum ws).sum = q at *
  generalize (rems a ws.sum ws).sum = r at *
  have e : ws.sum * (a - q) = r := by rw [Int.mul_sub, Int.mul_comm ws.sum a]; omega
  constructor
  · rcases Int.lt_or_le (a - q) 0 with h | h
    · have : ws.sum * (a - q) < 0 := Int.mul_neg_of_pos_of_neg hS h
      omega
    · exact h
  · rcases Int.lt_or_le (a - q) (ws.length : Int) with h | h
    · exact h
    · have h4 : ws.sum * (ws.length : Int) ≤ ws.sum * (a - q) := Int.mul_le_mul_of_nonneg_left h (by omega)
      have h5 : (ws.length : Int) * (ws.sum - 1) = ws.sum * (ws.length : Int) - ws.length := by rw [Int.mul_sub, Int.mul_comm]; omega
      omega
theorem quo_nonneg {a S : Int} {ws : List Int} (ha : 0 ≤ a) (hS : 0 < S) (hw : ∀ w ∈ ws, 0 ≤ w) : ∀ q ∈ quos a S ws, 0 ≤ q := by
  intro q hq
  obtain ⟨w, hw', rfl⟩ := List.mem_map.1 hq
  exact Int.ediv_nonneg (Int.mul_nonneg ha (hw w hw')) (by omega)
theorem sum_nonneg : ∀ {xs : List Int}, (∀ x ∈ xs, 0 ≤ x) → 0 ≤ xs.sum
  | [], _ => by simp
  | x :: xs, h => by
    have := sum_nonneg (xs := xs) fun y hy => h y (by simp [hy])
    have := h x (by simp)
    simp only [List.sum_cons]; omega
theorem sum_take_le {xs : List Int} (h : ∀ x ∈ xs, 0 ≤ x) (i : Nat) : 0 ≤ (xs.take i).sum ∧ (xs.take i).sum ≤ xs.sum := by
  have h1 : xs.sum = (xs.take i).sum + (xs.drop i).sum := by rw [← List.sum_append, List.take_append_drop]
  have h2 := sum_nonneg (xs := xs.drop i) fun y hy => h y (List.mem_of_mem_drop hy)
  have h3 := sum_nonneg (xs := xs.take i) fun y hy => h y (List.mem_of_mem_take hy)
  omega
theorem mem_le_sum : ∀ {xs : List Int} {x : Int}, (∀ y ∈ xs, 0 ≤ y) → x ∈ xs → x ≤ xs.sum
  | [], _, _, h => by simp at h
  | y :: xs, x, hn, h => by
    have h1 := sum_nonneg (xs := xs) fun z hz => hn z (by simp [hz])
    have h2 := hn y (by simp)
    simp only [List.sum_cons]
    rcases List.mem_cons.1 h with rfl | h
    · omega
    · have := mem_le_sum (xs := xs) (fun z hz => hn z (by simp [hz])) h
      omega
theorem all_amt {ws : List Int} (h : ws.all isAmt = true) : ∀ w ∈ ws, 0 ≤ w ∧ w ≤ 128849018880000 := fun w hw => isAmt_iff.1 (List.all_eq_true.1 h w hw)
theorem quo_le {a S w : Int} (ha : 0 ≤ a) (hS : 0 < S) (hw : w ≤ S) : a * w / S ≤ a := by
  exact Int.ediv_le_of_le_mul hS (Int.mul_le_mul_of_nonneg_left hw ha)
theorem divOf_small {a S w : Int} (ha : isAmt a = true) (hS : 0 < S) (h0 : 0 ≤ w) (hw : w ≤ S) : divOf a w S = (a * w / S, a * w % S, true) := by
  unfold divOf
  have := quo_le (isAmt_iff.1 ha).1 hS hw
  have := (isAmt_iff.1 ha).2
  rw [if_neg (by omega)]
/-- The first elements of a list, zeros behind them. -/
def fillTo (xs : List Int) (i : Nat) : List Int := xs.take i ++ List.replicate (xs.length - i) 0
theorem fillTo_length {xs : List Int} {i : Nat} (h : i ≤ xs.length) : (fillTo xs i).length = xs.length := by simp [fillTo]; omega
theorem g_fillTo {xs : List Int} {i k : Nat} (hi : i ≤ xs.length) (hk : k < xs.length) : g (fillTo xs i) k = if k < i then g xs k else 0 := by
  unfold fillTo g
  by_cases h : k < i
  · rw [if_pos h, List.getElem?_append_left (by simp; omega), List.getElem?_take, if_pos h]
  · rw [if_neg h, List.getElem?_append_right (by simp; omega), List.getElem?_replicate]
    split <;> rfl
theorem fillTo_set {xs : List Int} {i : Nat} (h : i < xs.length) : (fillTo xs i).set i (g xs i) = fillTo xs (i + 1) := by
  refine g_ext (by rw [List.length_set, fillTo_length (by omega), fillTo_length h]) fun k hk => ?_
  rw [List.length_set, fillTo_length (by omega)] at hk
  rw [g_set (by rw [fillTo_length (by omega)]; exact h), g_fillTo h hk]
  by_cases e : k = i
  · subst e; rw [if_pos rfl, if_pos (by omega)]
  · rw [if_neg e, g_fillTo (by omega) hk]
    by_cases h : k < i
    · rw [if_pos h, if_pos (by omega)]
    · rw [if_neg h, if_neg (by omega)]
theorem fillTo_all {xs : List Int} : fillTo xs xs.length = xs := by simp [fillTo]
theorem fillTo_zero {xs : List Int} : fillTo xs 0 = List.replicate xs.length 0 := by simp [fillTo]
theorem repeat_zero (n : Nat) : repeatCells [.int .i64 0] n = cellsL [.int .i64] (List.replicate n 0) := by
  induction n with
  | zero => rfl
  | succ n ih => simp only [repeatCells, ih, List.replicate_succ, cellsL, List.flatMap_cons, LT.lo, Leaf.lo]
end Go.Proofs.Ytaepkinihaipkaa
