/- What the parts of a division are: their sum, their bounds; what Draw computes. Conditions: those of each law. -/
import Derived.Test.YtaepkinihaipkaaD01c
namespace Go.Proofs.Ytaepkinihaipkaa
open Go Go.Proofs.Ytaepkinihaipkaa.Ev
set_option linter.unusedVariables false
set_option linter.unusedSimpArgs false
set_option maxRecDepth 100000
set_option maxHeartbeats 4000000
theorem perm_sum {xs ys : List Int} (h : xs.Perm ys) : xs.sum = ys.sum := by
  induction h with
  | nil => rfl
  | cons x _ ih => simp only [List.sum_cons, ih]
  | swap x y _ => simp only [List.sum_cons]; omega
  | trans _ _ h1 h2 => rw [h1, h2]
theorem sum_set : ∀ (xs : List Int) (i : Nat) (y : Int), i < xs.length → (xs.set i y).sum = xs.sum - g xs i + y
  | [], _, _, h => by simp at h
  | x :: xs, 0, y, _ => by simp [g]; omega
  | x :: xs, i + 1, y, h => by
    have := sum_set xs i y (by simpa using h)
    simp only [List.set_cons_succ, List.sum_cons, this]
    simp [g]
    omega
theorem sum_split_le : ∀ (xs : List Int) (p : Nat) (M : Int), 0 ≤ M → (∀ x ∈ xs, x ≤ M) → (∀ q, p ≤ q → q < xs.length → g xs q ≤ 0) → xs.sum ≤ p * M
  | [], p, M, h, _, _ => by simpa using Int.mul_nonneg (by omega) h
  | x :: xs, 0, M, h, h1, h2 => by
    have k1 := h2 0 (by omega) (by simp)
    have k2 := sum_split_le xs 0 M h (fun y hy => h1 y (by simp [hy])) (fun q _ hq => by have := h2 (q + 1) (by omega) (by simpa using hq); simpa [g] using this)
    simp only [g, List.getElem?_cons_zero, Option.getD_some] at k1
    simp only [List.sum_cons]
    omega
  | x :: xs, p + 1, M, h, h1, h2 => by
    have k1 := h1 x (by simp)
    have k2 := sum_split_le xs p M h (fun y hy => h1 y (by simp [hy])) (fun q hp hq => by have := h2 (q + 1) (by omega) (by simpa using hq); simpa [g] using this)
    simp only [List.sum_cons]
    rw [Int.natCast_add, Int.natCast_one, Int.add_mul, Int.one_mul]
    omega
theorem bump_sum {qs rs : List Int} (hl : rs.length = qs.length) : ∀ (k : Nat), k ≤ qs.length → (bump qs (ord rs) k).sum = qs.sum + k
  | 0, _ => by rw [bump_zero]; simp
  | k + 1, h => by
    have hr := ord_range (rs := rs) (p := k) (by omega)
    obtain ⟨x, hx⟩ : ∃ x : Nat, g (ord rs) k = (x : Int) := ⟨(g (ord rs) k).toNat, by omega⟩
    rw [← bump_succ ord_nodup (by rw [ord_length]; omega) hx (by omega), sum_set _ _ _ (by rw [bump_length]; omega), bump_sum hl k (by omega)]
    omega
theorem divParts_length {a S : Int} {ws : List Int} : (divParts a S ws).length = ws.length := by unfold divParts; rw [bump_length, quos_length]
theorem divParts_sum {a : Int} {ws : List Int} (hS : 0 < ws.sum) (hl : 0 < ws.length) : (divParts a ws.sum ws).sum = a := by
  have h := left_bound (a := a) hS hl
  unfold divParts
  rw [bump_sum (by rw [rems_length, quos_length]) _ (by rw [quos_length]; omega)]
  omega
theorem g_rems {a S : Int} {ws : List Int} {k : Nat} (h : k < ws.length) : g (rems a S ws) k = a * g ws k % S := g_map h
theorem g_quos {a S : Int} {ws : List Int} {k : Nat} (h : k < ws.length) : g (quos a S ws) k = a * g ws k / S := g_map h
theorem map_iota (rs : List Int) : (iota rs.length).map (fun x => g rs x.toNat) = rs := g_ext (by simp [iota_length]) fun k hk => by
  rw [List.length_map, iota_length] at hk
  rw [g_map (by rw [iota_length]; exact hk), g_iota hk, Int.toNat_natCast]
/-- Whoever gets one more has a rest. -/
theorem rem_pos {a : Int} {ws : List Int} {p : Nat} (hS : 0 < ws.sum) (hl : 0 < ws.length) (hp : (p : Int) < a - (quos a ws.sum ws).sum) : 0 < g (rems a ws.sum ws) (g (ord (rems a ws.sum ws)) p).toNat := by
  have hb := left_bound (a := a) hS hl
  have hs := quo_sum a ws.sum ws
  have hrl := rems_length (a := a) (S := ws.sum) (ws := ws)
  generalize hrs : rems a ws.sum ws = rs at *
  generalize (quos a ws.sum ws).sum = q at *
  have hr0 : ∀ k, k < rs.length → 0 ≤ g rs k ∧ g rs k ≤ ws.sum - 1 := fun k hk => by
    rw [← hrs, g_rems (by omega)]
    have k1 := Int.emod_nonneg (a * g ws k) (b := ws.sum) (by omega)
    have k2 := Int.emod_lt_of_pos (a * g ws k) hS
    omega
  have hpo := ord_range (rs := rs) (p := p) (by omega)
  refine Int.not_le.1 fun hle => ?_
  have hsum : rs.sum = ((ord rs).map fun x => g rs x.toNat).sum := by
    rw [perm_sum (ord_perm.map _), map_iota]
  have hle2 := sum_split_le ((ord rs).map fun x => g rs x.toNat) p (ws.sum - 1) (by omega) (fun x hx => by
      obtain ⟨y, hy, rfl⟩ := List.mem_map.1 hx
      have := mem_iota.1 (ord_perm.mem_iff.1 hy)
      exact (hr0 _ (by omega)).2) (fun j hj hjl => by
      rw [List.length_map, ord_length] at hjl
      rw [g_map (by rw [ord_length]; exact hjl)]
      by_cases e : j = p
      · subst e; exact hle
      · have := ord_lt (rs := rs) (show p < j by omega) hjl
        unfold ltR at this
        omega)
  rw [← hsum] at hle2
  have e1 : rs.sum = ws.sum * (a - q) := by rw [Int.mul_sub, Int.mul_comm ws.sum a]; omega
  have k1 : ws.sum * (p + 1) ≤ ws.sum * (a - q) := Int.mul_le_mul_of_nonneg_left (by omega) (by omega)
  rw [Int.mul_add, Int.mul_one, Int.mul_comm] at k1
  rw [Int.mul_sub, Int.mul_one] at hle2
  omega
theorem part_bound {a : Int} {ws : List Int} {i : Nat} (ha : 0 ≤ a) (hS : 0 < ws.sum) (haS : a ≤ ws.sum) (hw : ∀ w ∈ ws, 0 ≤ w) (hi : i < ws.length) : 0 ≤ g (divParts a ws.sum ws) i ∧ g (divParts a ws.sum ws) i ≤ g ws i := by
  have hl : 0 < ws.length := by omega
  have hb := left_bound (a := a) hS hl
  have hwi := hw _ (g_mem hi)
  have e1 := Int.mul_ediv_add_emod (a * g ws i) ws.sum
  have e2 := Int.emod_nonneg (a * g ws i) (b := ws.sum) (by omega)
  have e3 : a * g ws i ≤ ws.sum * g ws i := Int.mul_le_mul_of_nonneg_right haS hwi
  have e0 : 0 ≤ a * g ws i / ws.sum := Int.ediv_nonneg (Int.mul_nonneg ha hwi) (by omega)
  have hlt : (i : Int) ∈ (ord (rems a ws.sum ws)).take (a - (quos a ws.sum ws).sum).toNat → 0 < a * g ws i % ws.sum := fun h => by
    obtain ⟨p, hp, e⟩ := List.getElem_of_mem h
    rw [List.getElem_take] at e
    rw [List.length_take, ord_length, rems_length] at hp
    have := rem_pos (a := a) (p := p) hS hl (by omega)
    rw [g_eq (xs := ord _) (by rw [ord_length, rems_length]; omega), e, Int.toNat_natCast, g_rems hi] at this
    exact this
  unfold divParts
  rw [g_bump (by rw [quos_length]; exact hi), g_quos hi]
  generalize a * g ws i / ws.sum = q at *
  generalize a * g ws i % ws.sum = r at *
  by_cases h : (i : Int) ∈ (ord (rems a ws.sum ws)).take (a - (quos a ws.sum ws).sum).toNat
  · rw [if_pos h]
    have := hlt h
    have : ws.sum * q < ws.sum * g ws i := by omega
    have := Int.lt_of_mul_lt_mul_left this (by omega)
    omega
  · rw [if_neg h]
    have : ws.sum * q ≤ ws.sum * g ws i := by omega
    have := Int.le_of_mul_le_mul_left this hS
    omega
theorem eq_of_sum : ∀ {xs ys : List Int}, xs.length = ys.length → (∀ i, i < ys.length → g xs i ≤ g ys i) → xs.sum = ys.sum → xs = ys
  | [], [], _, _, _ => rfl
  | [], y :: ys, h, _, _ => by simp at h
  | x :: xs, [], h, _, _ => by simp at h
  | x :: xs, y :: ys, hl, h, hs => by
    have hle : ∀ {xs ys : List Int}, xs.length = ys.length → (∀ i, i < ys.length → g xs i ≤ g ys i) → xs.sum ≤ ys.sum := by
      intro xs
      induction xs with
      | nil => intro ys hl _; rw [List.length_nil] at hl; rw [List.eq_nil_of_length_eq_zero hl.symm]; exact Int.le_refl _
      | cons x xs ih =>
        intro ys hl h
        cases ys with
        | nil => simp at hl
        | cons y ys =>
          have h0 := h 0 (by simp)
          have h1 := ih (ys := ys) (by simpa using hl) (fun i hi => by have := h (i + 1) (by simpa using hi); simpa [g] using this)
          simp only [g, List.getElem?_cons_zero, Option.getD_some] at h0
          simp only [List.sum_cons]
          omega
    have hl' : xs.length = ys.length := by simpa using hl
    have ht : ∀ i, i < ys.length → g xs i ≤ g ys i := fun i hi => by have := h (i + 1) (by simpa using hi); simpa [g] using this
    have h0 := h 0 (by simp)
    have h1 := hle hl' ht
    simp only [g, List.getElem?_cons_zero, Option.getD_some] at h0
    simp only [List.sum_cons] at hs
    rw [show x = y by omega, eq_of_sum hl' ht (by omega)]
theorem parts_full {ws : List Int} (hS : 0 < ws.sum) (hl : 0 < ws.length) (hw : ∀ w ∈ ws, 0 ≤ w) : divParts ws.sum ws.sum ws = ws :=
  eq_of_sum divParts_length (fun i hi => (part_bound (by omega) hS (Int.le_refl _) hw hi).2) (divParts_sum hS hl)
/-- What is left of some weights, up to a place. -/
def less (ws ps : List Int) (k : Nat) : List Int := (List.range ws.length).map fun i : Nat => if i < k then g ws i - g ps i else g ws i
theorem less_length {ws ps : List Int} {k : Nat} : (less ws ps k).length = ws.length := by simp [less]
theorem g_less {ws ps : List Int} {k i : Nat} (h : i < ws.length) : g (less ws ps k) i = if i < k then g ws i - g ps i else g ws i := g_ofFn h
theorem less_zero {ws ps : List Int} : less ws ps 0 = ws := g_ext less_length fun k hk => by
  rw [less_length] at hk
  rw [g_less hk]; simp
theorem less_succ {ws ps : List Int} {k : Nat} (hk : k < ws.length) : (less ws ps k).set k (g ws k - g ps k) = less ws ps (k + 1) := by
  refine g_ext (by simp [less_length]) fun i hi => ?_
  rw [List.length_set, less_length] at hi
  rw [g_set (by rw [less_length]; exact hk), g_less hi, g_less hi]
  by_cases e : i = k
  · subst e; rw [if_pos rfl, if_pos (by omega)]
  · rw [if_neg e]
    by_cases h : i < k
    · rw [if_pos h, if_pos (by omega)]
    · rw [if_neg h, if_neg (by omega)]
def drawP (ws : List Int) (a : Int) : List Int × List Int × Int :=
  if (weighOf a ws).2 = 0 then (if (weighOf a ws).1 < a then ([], [], 17) else (divParts a (weighOf a ws).1 ws, less ws (divParts a (weighOf a ws).1 ws) ws.length, 0)) else ([], [], (weighOf a ws).2)
end Go.Proofs.Ytaepkinihaipkaa
