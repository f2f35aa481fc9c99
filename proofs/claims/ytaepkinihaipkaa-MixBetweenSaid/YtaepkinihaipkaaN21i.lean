/- The strength of a sum lies in the band of strengths. Conditions: those of each law. -/
import Derived.Test.YtaepkinihaipkaaN21h
namespace Go.Proofs.Ytaepkinihaipkaa
open Go Go.Proofs.Ytaepkinihaipkaa.Ev
set_option linter.unusedVariables false
set_option linter.unusedSimpArgs false
set_option maxRecDepth 100000
set_option maxHeartbeats 4000000
theorem strength_above {xs : List (Int × Int)} {x : Int × Int} (h : acheckOf xs x = 0) (hn : ¬(x.1 = 0 ∧ x.2 = 0)) :
    (∀ q : Nat, (q : Int) ≤ (strengthOf xs x).1 → above xs x q = false) ∧ ∀ q : Nat, (strengthOf xs x).1 < q → q < 10001 → above xs x q = true := by
  obtain ⟨a, v⟩ := x
  obtain ⟨r, er, hcase⟩ := Strength_ok xs a v
  have hs : strengthOf xs (a, v) = r := by unfold strengthOf; rw [er]; rfl
  rw [hs]
  rcases hcase with ⟨h1, _⟩ | ⟨_, ha, hv, _⟩ | ⟨_, _, m, m1, rfl, m3, m4⟩
  · exact absurd h h1
  · exact absurd ⟨ha, hv⟩ hn
  · exact ⟨fun q hq => m3 q (by simp only at hq; omega), fun q hq hq2 => m4 q (by simp only at hq; omega) hq2⟩
theorem no_volume {xs : List (Int × Int)} {x : Int × Int} (h : acheckOf xs x = 0) (hv : x.2 = 0) : x.1 = 0 := by
  obtain ⟨ck, hin, hmax⟩ := acheck_zero h
  have hd := dens_bound (t := 10000) (check_table ck) (by omega) (by omega)
  have hin := inA_iff.1 hin
  rcases Int.lt_or_le 0 x.1 with h | h
  · have := Int.mul_pos h (show 0 < dens xs 10000 by omega)
    omega
  · omega
theorem sumL_cons (x : Int × Int) (ls : List (Int × Int)) : sumL (x :: ls) = (x.1 + (sumL ls).1, x.2 + (sumL ls).2) := by simp [sumL]
theorem sum_not_above {xs : List (Int × Int)} {k : Nat} : ∀ (ls : List (Int × Int)), (∀ x ∈ ls, acheckOf xs x = 0) → (∀ x ∈ ls, x.2 ≠ 0 → above xs x k = false) → (sumL ls).2 * k ≤ (sumL ls).1 * dens xs k
  | [], _, _ => by simp [sumL]
  | x :: ls, h1, h2 => by
    have ih := sum_not_above ls (fun y hy => h1 y (by simp [hy])) (fun y hy => h2 y (by simp [hy]))
    have hx : x.2 * k ≤ x.1 * dens xs k := by
      by_cases hv : x.2 = 0
      · rw [no_volume (h1 x (by simp)) hv, hv]; simp
      · have := h2 x (by simp) hv
        unfold above at this
        have := of_decide_eq_false this
        omega
    rw [sumL_cons]
    simp only [Int.add_mul]
    omega
theorem sum_above {xs : List (Int × Int)} {k : Nat} : ∀ (ls : List (Int × Int)), (∀ x ∈ ls, acheckOf xs x = 0) → (∀ x ∈ ls, x.2 ≠ 0 → above xs x k = true) →
    ((sumL ls).1 * dens xs k ≤ (sumL ls).2 * k ∧ ((∃ x ∈ ls, x.2 ≠ 0) → (sumL ls).1 * dens xs k < (sumL ls).2 * k))
  | [], _, _ => by simp [sumL]
  | x :: ls, h1, h2 => by
    have ih := sum_above ls (fun y hy => h1 y (by simp [hy])) (fun y hy => h2 y (by simp [hy]))
    rw [sumL_cons]
    simp only [Int.add_mul]
    by_cases hv : x.2 = 0
    · rw [no_volume (h1 x (by simp)) hv, hv]
      simp only [Int.zero_mul, Int.zero_add]
      refine ⟨ih.1, fun ⟨y, hy, hyv⟩ => ih.2 ?_⟩
      rcases List.mem_cons.1 hy with rfl | hy
      · exact absurd hv hyv
      · exact ⟨y, hy, hyv⟩
    · have := of_decide_eq_true (h2 x (by simp) hv)
      exact ⟨by omega, fun _ => by omega⟩
theorem fold_band {xs : List (Int × Int)} : ∀ (ls : List (Int × Int)) (b : Int × Int), (ls.foldl (bandStep xs) b).1 ≤ b.1 ∧ b.2 ≤ (ls.foldl (bandStep xs) b).2 ∧
    (∀ x ∈ ls, x.2 ≠ 0 → (ls.foldl (bandStep xs) b).1 ≤ (strengthOf xs x).1 ∧ (strengthOf xs x).1 ≤ (ls.foldl (bandStep xs) b).2) ∧
    ((ls.foldl (bandStep xs) b).1 = b.1 ∨ ∃ x ∈ ls, x.2 ≠ 0 ∧ (strengthOf xs x).1 = (ls.foldl (bandStep xs) b).1) ∧ ((ls.foldl (bandStep xs) b).2 = b.2 ∨ ∃ x ∈ ls, x.2 ≠ 0 ∧ (strengthOf xs x).1 = (ls.foldl (bandStep xs) b).2)
  | [], b => by simp
  | y :: ls, b => by
    obtain ⟨i1, i2, i3, i4, i5⟩ := fold_band ls (bandStep xs b y)
    rw [List.foldl_cons]
    generalize ls.foldl (bandStep xs) (bandStep xs b y) = r at *
    have hb : bandStep xs b y = if y.2 = 0 then b else (min b.1 (strengthOf xs y).1, max b.2 (strengthOf xs y).1) := rfl
    by_cases hy : y.2 = 0
    · rw [if_pos hy] at hb
      rw [hb] at i1 i2 i4 i5
      refine ⟨i1, i2, fun x hx hv => ?_, ?_, ?_⟩
      · rcases List.mem_cons.1 hx with rfl | hx
        · exact absurd hy hv
        · exact i3 x hx hv
      · rcases i4 with h | ⟨x, hx, h⟩
        · exact .inl h
        · exact .inr ⟨x, by simp [hx], h⟩
      · rcases i5 with h | ⟨x, hx, h⟩
        · exact .inl h
        · exact .inr ⟨x, by simp [hx], h⟩
    · rw [if_neg hy] at hb
      rw [hb] at i1 i2 i4 i5
      simp only at i1 i2 i4 i5
      refine ⟨by clear i4 i5; omega, by clear i4 i5; omega, fun x hx hv => ?_, ?_, ?_⟩
      · rcases List.mem_cons.1 hx with rfl | hx
        · clear i4 i5; omega
        · exact i3 x hx hv
      · rcases i4 with h | ⟨x, hx, h⟩
        · by_cases c : b.1 ≤ (strengthOf xs y).1
          · exact .inl (by clear i5; omega)
          · exact .inr ⟨y, by simp, hy, by clear i5; omega⟩
        · exact .inr ⟨x, by simp [hx], h⟩
      · rcases i5 with h | ⟨x, hx, h⟩
        · by_cases c : (strengthOf xs y).1 ≤ b.2
          · exact .inl (by clear i4; omega)
          · exact .inr ⟨y, by simp, hy, by clear i4; omega⟩
        · exact .inr ⟨x, by simp [hx], h⟩
theorem mixture_zero {xs ls : List (Int × Int)} (h : (mixtureOf xs ls).2 = 0) : ls.length ≤ 8 ∧ (checkOf xs).2 = 0 ∧ (∀ x ∈ ls, acheckOf xs x = 0) ∧ (∀ x ∈ ls, isPlain x = true) ∧ isPlain (sumL ls) = true ∧ (mixtureOf xs ls).1 = sumL ls ∧ sumOf ls = (sumL ls, 0) := by
  have h8 := mixture_short h
  unfold mixtureOf at h ⊢
  rw [if_neg (by omega)] at h ⊢
  by_cases hc : (checkOf xs).2 = 0
  · rw [if_pos hc] at h ⊢
    by_cases ha : ls.any (fun x => !decide (acheckOf xs x = 0)) = true
    · rw [if_pos ha] at h; simp at h
    · rw [if_neg ha] at h ⊢
      rw [Bool.not_eq_true] at ha
      have hck : ∀ x ∈ ls, acheckOf xs x = 0 := fun x hx => by
        have := List.any_eq_false.1 ha x hx
        simpa using this
      unfold sumOf at h ⊢
      rw [if_neg (by omega)] at h ⊢
      by_cases hp : ls.any (fun x => !isPlain x) = true
      · rw [if_pos hp] at h; simp at h
      · rw [if_neg hp] at h ⊢
        rw [Bool.not_eq_true] at hp
        have hpl : ∀ x ∈ ls, isPlain x = true := fun x hx => by
          have := List.any_eq_false.1 hp x hx
          simpa using this
        by_cases hs : isPlain (sumL ls) = true
        · rw [if_pos hs]
          exact ⟨h8, hc, hck, hpl, hs, rfl, rfl⟩
        · rw [if_neg hs] at h; simp at h
  · rw [if_neg hc] at h; simp at h
/-- The band of a mixture, and its strength in it. -/
theorem band_law {xs ls : List (Int × Int)} (h : (mixtureOf xs ls).2 = 0) (hv : (sumL ls).2 ≠ 0) :
    (strengthOf xs (sumL ls)).2 = 0 ∧ (bandOf xs ls).1 ≤ (strengthOf xs (sumL ls)).1 ∧ (strengthOf xs (sumL ls)).1 ≤ (bandOf xs ls).2 ∧
    (∃ x ∈ ls, x.2 ≠ 0 ∧ (strengthOf xs x).1 = (bandOf xs ls).1) ∧ (∃ x ∈ ls, x.2 ≠ 0 ∧ (strengthOf xs x).1 = (bandOf xs ls).2) ∧ ∀ x ∈ ls, x.2 ≠ 0 → (strengthOf xs x).2 = 0 ∧ (bandOf xs ls).1 ≤ (strengthOf xs x).1 ∧ (strengthOf xs x).1 ≤ (bandOf xs ls).2 := by
  obtain ⟨h8, hc, hck, hpl, hps, _, _⟩ := mixture_zero h
  have ht := check_table hc
  have hps' := isPlain_iff.1 hps
  have hex : ∃ x ∈ ls, x.2 ≠ 0 := by
    refine Classical.byContradiction fun hno => hv ?_
    have hall : ∀ x ∈ ls, x.2 = 0 := fun x hx => Classical.byContradiction fun hx2 => hno ⟨x, hx, hx2⟩
    have : ∀ (l : List (Int × Int)), (∀ x ∈ l, x.2 = 0) → (sumL l).2 = 0 := fun l => by
      induction l with
      | nil => intro _; rfl
      | cons y l ih => intro hl; rw [sumL_cons]; simp only [hl y (by simp), ih fun x hx => hl x (by simp [hx])]; rfl
    exact this ls hall
  have hst : ∀ x, acheckOf xs x = 0 → (strengthOf xs x).2 = 0 ∧ 0 ≤ (strengthOf xs x).1 ∧ (strengthOf xs x).1 ≤ 10000 := fun x hx => by
    rcases (strengthOf_ok xs x).2 with ⟨h1, _⟩ | ⟨_, h2⟩
    · exact absurd hx h1
    · exact h2
  have hsum : acheckOf xs (sumL ls) = 0 := by
    have : ∀ (l : List (Int × Int)), (∀ x ∈ l, acheckOf xs x = 0) → (sumL l).1 * dens xs 10000 ≤ (sumL l).2 * 10000 := fun l => by
      induction l with
      | nil => intro _; simp [sumL]
      | cons y l ih =>
        intro hl
        have k1 := (acheck_zero (hl y (by simp))).2.2
        have k2 := ih fun x hx => hl x (by simp [hx])
        rw [sumL_cons]
        simp only [Int.add_mul]
        omega
    have := this ls hck
    unfold acheckOf
    rw [if_pos hc, if_pos (inA_iff.2 (by omega)), if_neg (by omega)]
  obtain ⟨b1, b2, b3, b4, b5⟩ := fold_band (xs := xs) ls (10000, 0)
  have hb : ls.foldl (bandStep xs) (10000, 0) = bandOf xs ls := rfl
  rw [hb] at b1 b2 b3 b4 b5
  generalize bandOf xs ls = b at *
  simp only at b1 b2 b4 b5
  obtain ⟨x0, hx0, hv0⟩ := hex
  have s0 := hst x0 (hck x0 hx0)
  have b0 := b3 x0 hx0 hv0
  have ss := hst _ hsum
  have sa := strength_above hsum (fun hn => hv hn.2)
  refine ⟨ss.1, ?_, ?_, ?_, ?_, fun x hx hxv => ⟨(hst x (hck x hx)).1, b3 x hx hxv⟩⟩
  · clear b4 b5
    rcases Int.lt_or_le (strengthOf xs (sumL ls)).1 b.1 with hlt | hle
    · have hk := sa.2 b.1.toNat (by omega) (by omega)
      have := sum_not_above (k := b.1.toNat) ls hck fun x hx hxv => (strength_above (hck x hx) (fun hn => hxv hn.2)).1 b.1.toNat (by have := (b3 x hx hxv).1; omega)
      have hk := of_decide_eq_true hk
      omega
    · exact hle
  · clear b4 b5
    rcases Int.lt_or_le b.2 (strengthOf xs (sumL ls)).1 with hlt | hle
    · have hk := sa.1 (b.2 + 1).toNat (by omega)
      have := (sum_above (k := (b.2 + 1).toNat) ls hck fun x hx hxv => (strength_above (hck x hx) (fun hn => hxv hn.2)).2 (b.2 + 1).toNat (by have := (b3 x hx hxv).2; omega) (by omega)).2 ⟨x0, hx0, hv0⟩
      rw [above, decide_eq_true this] at hk
      cases hk
    · exact hle
  · clear b5
    rcases b4 with h | h
    · exact ⟨x0, hx0, hv0, by omega⟩
    · exact h
  · clear b4
    rcases b5 with h | h
    · exact ⟨x0, hx0, hv0, by omega⟩
    · exact h
end Go.Proofs.Ytaepkinihaipkaa
