/- What the printed functions of package loss and its reference compute, where no weights are divided. Conditions: those of each law. -/
import Derived.Test.YtadlfinlbaogeaaFn8
namespace Go.Proofs.Ytadlfinlbaogeaa
open Go Go.Proofs.Ytadlfinlbaogeaa.Ev
set_option linter.unusedVariables false
set_option linter.unusedSimpArgs false
set_option maxRecDepth 100000
set_option maxHeartbeats 1000000
def isAlc (n : Int) : Bool := decide (0 ≤ n) && decide (n ≤ 10737418240000)
theorem isAlc_iff {n : Int} : isAlc n = true ↔ 0 ≤ n ∧ n ≤ 10737418240000 := by simp [isAlc]
theorem lamount_ok (xs : List Int) (hn : xs.length < 2 ^ 63) : loss_amountP xs = some (xs.all isAlc) := by
  unfold loss_amountP loss_amount
  rw [iter_find xs (fun x => !isAlc x) (fun _ => false) hn (fun i x hx => by
    obtain ⟨hlt, rfl⟩ := List.getElem?_eq_some_iff.1 hx
    unfold loss_amount.loop1
    simp -implicitDefEqProofs only [rowSV_len, Int.toNat_natCast]
    rw [decide_eq_true (by omega), cond_true, guardO_pos (by omega), rd_rowI, hx]
    simp -implicitDefEqProofs only [Option.bind_some]
    rw [i64_succ (by omega)]
    unfold isAlc
    by_cases h1 : xs[i] < 0
    · rw [decide_eq_true h1, decide_eq_false (show ¬ 0 ≤ xs[i] by omega)]; rfl
    · rw [decide_eq_false h1, decide_eq_true (show 0 ≤ xs[i] by omega)]
      by_cases h2 : 10737418240000 < xs[i]
      · rw [decide_eq_true h2, decide_eq_false (show ¬ xs[i] ≤ 10737418240000 by omega)]; rfl
      · rw [decide_eq_false h2, decide_eq_true (show xs[i] ≤ 10737418240000 by omega)]; rfl) (by
    unfold loss_amount.loop1
    simp -implicitDefEqProofs only [rowSV_len]
    rw [decide_eq_false (by omega), cond_false])]
  rw [all_find]
  cases xs.findIdx? fun x => !isAlc x <;> rfl
/-- The division of a difference. -/
def lossOf (e f a o : Int) : Int × Int × Int × Int :=
  if e < f then (0, 0, 0, f - e) else (min (e - f) a, min (e - f - min (e - f) a) o, e - f - min (e - f) a - min (e - f - min (e - f) a) o, 0)
theorem minI_eq' (x y : Int) : minI y x = min y x := by unfold minI; split <;> omega
theorem split_ok {e f a o : Int} (he : isAlc e = true) (hf : isAlc f = true) (ha : isAlc a = true) (ho : isAlc o = true) : loss_splitP e f a o = some (lossOf e f a o) := by
  rw [isAlc_iff] at he hf ha ho
  have key : loss_splitP e f a o = bif decide (e < f) then some (0, 0, 0, IntKind.i64.wrap (f - e)) else
      some (minI (IntKind.i64.wrap (e - f)) a, minI (IntKind.i64.wrap (IntKind.i64.wrap (e - f) - minI (IntKind.i64.wrap (e - f)) a)) o,
        IntKind.i64.wrap (IntKind.i64.wrap (IntKind.i64.wrap (e - f) - minI (IntKind.i64.wrap (e - f)) a) - minI (IntKind.i64.wrap (IntKind.i64.wrap (e - f) - minI (IntKind.i64.wrap (e - f)) a)) o), 0) := by
    unfold loss_splitP loss_split
    cases decide (e < f) <;> kernel_rfl
  rw [key]
  unfold lossOf
  by_cases h : e < f
  · rw [decide_eq_true h, if_pos h, i64_in _ (by omega)]; rfl
  · rw [decide_eq_false h, if_neg h, i64_in (e - f) (by omega), minI_eq', i64_in (e - f - min (e - f) a) (by omega), minI_eq', i64_in (e - f - min (e - f) a - _) (by omega)]; rfl
theorem lIs_ok (n : Int) : spileref32_IsP n = some (isAlc n) := by
  unfold spileref32_IsP spileref32_Is isAlc
  cases decide (0 ≤ n) <;> rfl
theorem lOf_ok {e f a o : Int} (he : isAlc e = true) (hf : isAlc f = true) (ha : isAlc a = true) (ho : isAlc o = true) : spileref32_OfP e f a o = some (lossOf e f a o) := by
  rw [isAlc_iff] at he hf ha ho
  have key : spileref32_OfP e f a o = bif decide (e < f) then some (0, 0, 0, IntKind.i64.wrap (f - e)) else
      some (minI a (IntKind.i64.wrap (e - f)), minI o (IntKind.i64.wrap (IntKind.i64.wrap (e - f) - minI a (IntKind.i64.wrap (e - f)))),
        IntKind.i64.wrap (IntKind.i64.wrap (IntKind.i64.wrap (e - f) - minI a (IntKind.i64.wrap (e - f))) - minI o (IntKind.i64.wrap (IntKind.i64.wrap (e - f) - minI a (IntKind.i64.wrap (e - f))))), 0) := by
    unfold spileref32_OfP spileref32_Of
    cases decide (e < f) <;> kernel_rfl
  rw [key]
  unfold lossOf
  by_cases h : e < f
  · rw [decide_eq_true h, if_pos h, i64_in _ (by omega)]; rfl
  · rw [decide_eq_false h, if_neg h, i64_in (e - f) (by omega), minI_eq', Int.min_comm a, i64_in (e - f - min (e - f) a) (by omega), minI_eq', Int.min_comm o, i64_in (e - f - min (e - f) a - _) (by omega)]; rfl
theorem lost_ok (l : Int × Int × Int × Int) : spilelaw32_lostP l = some (IntKind.i64.wrap (IntKind.i64.wrap (l.1 + l.2.1) + l.2.2.1)) := by
  obtain ⟨l0, l1, l2, l3⟩ := l
  kernel_rfl
theorem awake32 : spilelaw32_awakeP = some true := by kernel_rfl

/-! ### Turns one behind the other -/

abbrev L4 := Int × Int × Int × Int
abbrev T5 := Int × Int × Int × Int × Int
abbrev i4 : List Leaf := [.int .i64, .int .i64, .int .i64, .int .i64]
abbrev i5 : List Leaf := [.int .i64, .int .i64, .int .i64, .int .i64, .int .i64]
def turnErr (now : Int) (t : T5) : Int :=
  if (isAlc t.1 && (isAlc t.2.1 && (isAlc t.2.2.1 && (isAlc t.2.2.2.1 && isAlc t.2.2.2.2)))) = true then (if 10737418240000 < now + t.1 then 15 else if now + t.1 < t.2.1 then 17 else 0) else 2
def turnOf (now : Int) (t : T5) : L4 := lossOf (now + t.1 - t.2.1) t.2.2.1 t.2.2.2.1 t.2.2.2.2
/-- What comes of turns, from one on: the divisions, or the place and the error. -/
def turns : Int → Nat → List T5 → List L4 × Int × Int
  | _, _, [] => ([], -1, 0)
  | now, i, t :: l => if turnErr now t = 0 then ((if (turns t.2.2.1 (i + 1) l).2.2 = 0 then turnOf now t :: (turns t.2.2.1 (i + 1) l).1 else []), (turns t.2.2.1 (i + 1) l).2) else ([], (i : Int), turnErr now t)
def chainOf (start : Int) (l : List T5) : List L4 × Int × Int :=
  if 128 < l.length then ([], -1, 8) else if isAlc start = true then turns start 0 l else ([], -1, 2)
theorem turnErr_zero {now : Int} {t : T5} (h : turnErr now t = 0) (hn : isAlc now = true) : isAlc t.2.2.1 = true ∧ isAlc t.2.2.2.1 = true ∧ isAlc t.2.2.2.2 = true ∧ isAlc (now + t.1 - t.2.1) = true ∧ isAlc t.1 = true ∧ isAlc t.2.1 = true := by
  unfold turnErr at h
  split at h
  · rename_i ha
    simp only [Bool.and_eq_true] at ha
    split at h
    · omega
    · split at h
      · omega
      · refine ⟨ha.2.2.1, ha.2.2.2.1, ha.2.2.2.2, ?_, ha.1, ha.2.1⟩
        simp only [isAlc_iff] at *
        omega
  · omega
abbrev ChainF := (SV × Int × Int) × H → Option (Stp ((SV × Int × Int) × H) (Flow SV (SV × Int × Int) × H))
/-- A loop over turns. -/
theorem chain_loop {f : ChainF} (l : List T5) (hl : l.length ≤ 128)
    (hstep : ∀ (i : Nat) (t : T5) (now : Int) (s : SV) (sl : List Slot) (o : Option Nat) (pre : List L4), l[i]? = some t → pre.length ≤ 128 → isAlc now = true → Acc sl i4 pre s o →
      (turnErr now t ≠ 0 → ∃ sl', f ((s, now, (i : Int)), hL sl) = some (.done (.ret (⟨.nil, 0, 0, false⟩, (i : Int), turnErr now t), hL sl'))) ∧
      (turnErr now t = 0 → ∃ s' sl' o', f ((s, now, (i : Int)), hL sl) = some (.more ((s', t.2.2.1, ((i + 1 : Nat) : Int)), hL sl')) ∧ Acc sl' i4 (pre ++ [turnOf now t]) s' o'))
    (hend : ∀ (s : SV) (now : Int) (sl : List Slot), f ((s, now, (l.length : Int)), hL sl) = some (.done (.ex0 s, hL sl)))
    {start : Int} (hs : isAlc start = true) {s0 : SV} (h0 : Acc [] i4 [] s0 none) :
    ∃ x sl, iter FUEL f ((s0, start, 0), hL []) = some (x, hL sl) ∧ (((turns start 0 l).2.2 = 0 ∧ ∃ s o, x = .ex0 s ∧ Acc sl i4 (turns start 0 l).1 s o ∧ (turns start 0 l).2.1 = -1) ∨ ((turns start 0 l).2.2 ≠ 0 ∧ x = .ret (⟨.nil, 0, 0, false⟩, (turns start 0 l).2) ∧ (turns start 0 l).1 = [])) := by
  obtain ⟨x, hx, hp⟩ := iter_inv (f := f)
    (Inv := fun st => ∃ (i : Nat) (now : Int) (s : SV) (sl : List Slot) (o : Option Nat) (pre : List L4), st = ((s, now, (i : Int)), hL sl) ∧ i ≤ l.length ∧ isAlc now = true ∧ pre.length = i ∧ Acc sl i4 pre s o ∧
      turns start 0 l = (if (turns now i (l.drop i)).2.2 = 0 then pre ++ (turns now i (l.drop i)).1 else [], (turns now i (l.drop i)).2))
    (Post := fun r => ∃ x sl, r = (x, hL sl) ∧ (((turns start 0 l).2.2 = 0 ∧ ∃ s o, x = .ex0 s ∧ Acc sl i4 (turns start 0 l).1 s o ∧ (turns start 0 l).2.1 = -1) ∨ ((turns start 0 l).2.2 ≠ 0 ∧ x = .ret (⟨.nil, 0, 0, false⟩, (turns start 0 l).2) ∧ (turns start 0 l).1 = [])))
    (fun st => l.length - st.1.2.2.toNat) (fun st hi => by
      obtain ⟨i, now, s, sl, o, pre, rfl, hi, hnow, hpre, hacc, htu⟩ := hi
      rcases Nat.lt_or_ge i l.length with hlt | hge
      · have ht : l[i]? = some l[i] := List.getElem?_eq_getElem hlt
        obtain ⟨k1, k2⟩ := hstep i l[i] now s sl o pre ht (by omega) hnow hacc
        rw [List.drop_eq_getElem_cons hlt] at htu
        by_cases he : turnErr now l[i] = 0
        · left
          obtain ⟨s', sl', o', g1, g2⟩ := k2 he
          refine ⟨_, g1, ⟨i + 1, _, s', sl', o', _, rfl, by omega, (turnErr_zero he hnow).1, by simp [hpre], g2, ?_⟩, ?_⟩
          · rw [htu]
            simp only [turns, if_pos he]
            split <;> simp
          · simp only [Int.toNat_natCast]; omega
        · right
          obtain ⟨sl', g1⟩ := k1 he
          refine ⟨_, g1, _, _, rfl, .inr ?_⟩
          rw [htu]
          simp only [turns, if_neg he]
          exact ⟨he, trivial, trivial⟩
      · right
        have : i = l.length := by omega
        subst this
        refine ⟨_, hend s now sl, _, _, rfl, .inl ?_⟩
        rw [htu]
        simp only [List.drop_length, turns, if_true, List.append_nil]
        exact ⟨trivial, s, o, rfl, hacc, trivial⟩) FUEL ((s0, start, 0), hL []) ⟨0, start, s0, [], none, [], rfl, Nat.zero_le _, hs, rfl, h0, by
        simp only [List.drop_zero, List.nil_append]
        split
        · rfl
        · rename_i h
          have : ∀ (l : List T5) (now : Int) (i : Nat), (turns now i l).2.2 ≠ 0 → (turns now i l).1 = [] := by
            intro l
            induction l with
            | nil => intro now i h; simp [turns] at h
            | cons t l ih =>
              intro now i h
              simp only [turns] at h ⊢
              split
              · rename_i he
                rw [if_pos he] at h
                simp only [if_neg h]
              · rfl
          rw [← this l start 0 h]⟩ (by
        show l.length - (0 : Int).toNat < FUEL
        exact fuel_gt (by omega))
  obtain ⟨y, sl, rfl, hp⟩ := hp
  exact ⟨y, sl, hx, hp⟩
end Go.Proofs.Ytadlfinlbaogeaa
