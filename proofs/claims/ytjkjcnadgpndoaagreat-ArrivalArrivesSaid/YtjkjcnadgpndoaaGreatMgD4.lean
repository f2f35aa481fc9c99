/- What the functions of this seat compute, and the evaluator: some texts in one. Conditions: those of each law. -/
import Derived.Test.YtjkjcnadgpndoaaGreatMgD3
/- BinarySearchFunc, without and Differ. Conditions: those of each law. -/
namespace Go.Proofs.YtjkjcnadgpndoaaGreat
open Go Go.Proofs.YtjkjcnadgpndoaaGreat.Ev
set_option linter.unusedVariables false
set_option linter.unusedSimpArgs false
set_option maxRecDepth 100000
set_option maxHeartbeats 4000000
theorem mid_eq {lo hi : Nat} (h : lo + hi < 4611686018427387904) : IntKind.wrap .i64 (Int.fdiv (IntKind.wrap .u64 (IntKind.wrap .i64 ((lo : Int) + (hi : Int)))) (2 ^ (min (Int.toNat 1) (IntKind.bits .u64)))) = (((lo + hi) / 2 : Nat) : Int) := by
  rw [← Int.natCast_add, i64_nat (by omega), IntWalk.u64_in _ (by omega), show ((2 : Int) ^ (min (Int.toNat 1) (IntKind.bits .u64))) = 2 from rfl, Int.fdiv_eq_ediv_of_nonneg _ (by omega)]
  rw [show (((lo + hi : Nat) : Int) / 2) = (((lo + hi) / 2 : Nat) : Int) by omega, i64_nat (by omega)]
theorem sorted_lt {ys : List Fct} (h : ys.Pairwise fun a b => cmpF a b < 0) {i j : Nat} (hij : i < j) (hj : j < ys.length) : cmpF (gq ys i) (gq ys j) < 0 := by
  rw [gq_eq (by omega), gq_eq hj]
  exact List.pairwise_iff_getElem.1 h i j (by omega) hj hij
theorem Search_at {T : Table} (hT : T.dy.fn 33 = fact_CompareP.e) {ys : List Fct} {x : Fct} (hs : ys.Pairwise fun a b => cmpF a b < 0) (hn : ys.length < 2 ^ 60) (hok : ∀ y ∈ ys, okF y = true) (sl : List Slot) :
    ∃ i, slices_BinarySearchFunc_api_Fact_api_Fact_api_Fact T (rowSV true FC ys) (low true x) (.func 33 []) (hL sl) = some ((i, knownF ys x), hL (sl ++ [cFt true x])) := by
  have hT' : (slices_BinarySearchFunc_api_Fact_api_Fact_api_Fact.tb T).dy.fn 33 = fact_CompareP.e := hT
  have okq : ∀ i, i < ys.length → okF (gq ys i) = true := fun i hi => by rw [gq_eq hi]; exact hok _ (List.getElem_mem hi)
  have rx : rdT (.agg FS) (hL (sl ++ [cFt true x])) (.hp sl.length 6 0) = some (low true x) := (rds_cFt (by simp)).1
  have ry : ∀ i, i < ys.length → ∀ h, rdT (.agg FS) h (V.add (rowSV true FC ys).a (i * 6)) = some (low true (gq ys i)) := fun i hi h => by
    rw [rd_fact, gq_some hi]; rfl
  have cc : ∀ (a : Fct), okF a = true → ∀ {R : Type} (k : V → H → Option R) (h : H), callV T.dy (.func 33 []) [argF true a, argF true x] h k = k (.int .i64 (cmpF a x)) h := fun a ha R k h => by
    rw [call33 hT, Compare_ok a x ha]; rfl
  obtain ⟨q, hq, i, rfl, hi, h1, h2⟩ := iter_inv (f := slices_BinarySearchFunc_api_Fact_api_Fact_api_Fact.loop1 T (hL sl) (rowSV true FC ys) (.func 33 []))
    (Inv := fun st => ∃ i j : Nat, st = (((i : Int), (j : Int)), hL (sl ++ [cFt true x])) ∧ i ≤ j ∧ j ≤ ys.length ∧ (∀ k, k < i → cmpF (gq ys k) x < 0) ∧ ∀ k, j ≤ k → k < ys.length → ¬ cmpF (gq ys k) x < 0)
    (Post := fun q => ∃ i : Nat, q = (.ex0 (i : Int), hL (sl ++ [cFt true x])) ∧ i ≤ ys.length ∧ (∀ k, k < i → cmpF (gq ys k) x < 0) ∧ ∀ k, i ≤ k → k < ys.length → ¬ cmpF (gq ys k) x < 0)
    (fun st => st.1.2.toNat - st.1.1.toNat) (fun st hi => by
      obtain ⟨i, j, rfl, hij, hj, h1, h2⟩ := hi
      by_cases hlt : i < j
      · left
        have hm : (i + j) / 2 < ys.length := by omega
        by_cases hc : cmpF (gq ys ((i + j) / 2)) x < 0
        · refine ⟨((((i + j) / 2 + 1 : Nat) : Int), (j : Int), hL (sl ++ [cFt true x])) |> fun (a, b, c) => ((a, b), c), ?_, ⟨(i + j) / 2 + 1, j, rfl, by omega, hj, fun k hk => ?_, h2⟩, by simp only [Int.toNat_natCast]; omega⟩
          · unfold slices_BinarySearchFunc_api_Fact_api_Fact_api_Fact.loop1
            try simp -implicitDefEqProofs only [reserve0, rowSV_len, hL_next]
            rw [decide_eq_true (by omega), cond_true, mid_eq (by omega), guardO_pos (by omega), Int.toNat_natCast, ry _ hm]
            try simp -implicitDefEqProofs only [Option.bind_some, low, rowSV_len, rowSV_cap, rowSV_tail]
            have rx' := rx
            simp only [low] at rx'
            rw [rx']
            try simp -implicitDefEqProofs only [Option.bind_some, rowSV_len, rowSV_cap, rowSV_tail]
            rw [cc _ (okq _ hm)]
            try simp -implicitDefEqProofs only [packQ, Option.bind_some]
            rw [decide_eq_true hc]
            try simp -implicitDefEqProofs only [cond_true, Option.bind_some]
            rw [i64_suc (by omega)]
          · by_cases hk2 : k = (i + j) / 2
            · rw [hk2]; exact hc
            · exact cmpF_to.trans _ _ _ (sorted_lt hs (by omega) hm) hc
        · refine ⟨((i : Int), (((i + j) / 2 : Nat) : Int), hL (sl ++ [cFt true x])) |> fun (a, b, c) => ((a, b), c), ?_, ⟨i, (i + j) / 2, rfl, by omega, by omega, h1, fun k hk hkl => ?_⟩, by simp only [Int.toNat_natCast]; omega⟩
          · unfold slices_BinarySearchFunc_api_Fact_api_Fact_api_Fact.loop1
            try simp -implicitDefEqProofs only [reserve0, rowSV_len, hL_next]
            rw [decide_eq_true (by omega), cond_true, mid_eq (by omega), guardO_pos (by omega), Int.toNat_natCast, ry _ hm]
            try simp -implicitDefEqProofs only [Option.bind_some, low, rowSV_len, rowSV_cap, rowSV_tail]
            have rx' := rx
            simp only [low] at rx'
            rw [rx']
            try simp -implicitDefEqProofs only [Option.bind_some, rowSV_len, rowSV_cap, rowSV_tail]
            rw [cc _ (okq _ hm)]
            try simp -implicitDefEqProofs only [packQ, Option.bind_some]
            rw [decide_eq_false hc]
            try simp -implicitDefEqProofs only [cond_false, Option.bind_some]
          · intro hl
            by_cases hk2 : k = (i + j) / 2
            · rw [hk2] at hl; exact hc hl
            · exact hc (cmpF_to.trans _ _ _ (sorted_lt hs (by omega) hkl) hl)
      · right
        have : i = j := by omega
        subst this
        refine ⟨(.ex0 (i : Int), hL (sl ++ [cFt true x])), ?_, i, rfl, hj, h1, h2⟩
        unfold slices_BinarySearchFunc_api_Fact_api_Fact_api_Fact.loop1
        try simp -implicitDefEqProofs only []
        rw [decide_eq_false (by omega), cond_false]) FUEL ((0, (ys.length : Int)), hL (sl ++ [cFt true x])) ⟨0, ys.length, rfl, Nat.zero_le _, Nat.le_refl _, fun k hk => by omega, fun k hk hkl => by omega⟩ (fuel_gt (by simp only [Int.toNat_natCast]; omega))
  refine ⟨(i : Int), ?_⟩
  have hat : x ∈ ys → ∃ k, k < ys.length ∧ cmpF (gq ys k) x = 0 ∧ gq ys k = x := fun h => by
    obtain ⟨k, hk, e⟩ := List.getElem_of_mem h
    have : gq ys k = x := by rw [gq_eq hk, e]
    exact ⟨k, hk, by rw [this]; exact cmpF_self x, this⟩
  have hfound : i < ys.length → decide (cmpF (gq ys i) x = 0) = knownF ys x := fun hil => by
    rw [Bool.eq_iff_iff, known_iff, decide_eq_true_iff]
    constructor
    · intro h
      rw [← cmpF_to.zero _ _ h, gq_eq hil]
      exact List.getElem_mem _
    · intro h
      obtain ⟨k, hk, e, ek⟩ := hat h
      by_cases hki : k < i
      · have := h1 k hki; omega
      · by_cases hke : k = i
        · rw [← hke]; exact e
        · have := sorted_lt hs (show i < k by omega) hk
          rw [ek] at this
          exact absurd this (h2 i (Nat.le_refl _) hil)
  have hnone : ys.length ≤ i → false = knownF ys x := fun hil => by
    cases hh : knownF ys x with
    | false => rfl
    | true =>
      obtain ⟨k, hk, e, _⟩ := hat (known_iff.1 hh)
      have := h1 k (by omega)
      omega
  obtain ⟨x0, x1, x2, x3, x4, x5⟩ := x
  unfold slices_BinarySearchFunc_api_Fact_api_Fact_api_Fact
  try simp -implicitDefEqProofs only [low, rowSV_len, rowSV_cap, rowSV_tail, hL_new]
  have hq' : iter FUEL (slices_BinarySearchFunc_api_Fact_api_Fact_api_Fact.loop1 T (hL sl) (rowSV true [.int .i64, .int .i64, .int .i64, .int .i64, .row [.int .i64], .row [.str]] ys) (.func 33 [])) ((0, (ys.length : Int)), hL (sl ++ [.own [.int .i64 x0, .int .i64 x1, .int .i64 x2, .int .i64 x3, .slice (rowSV true [.int .i64] x4).a x4.length x4.length true, .slice (rowSV true [.str] x5).a x5.length x5.length true] 6])) = _ := hq
  rw [hq']
  try simp -implicitDefEqProofs only [Option.bind_some, reserve0]
  by_cases hin : (i : Int) < (ys.length : Int)
  · rw [decide_eq_true hin, cond_true, guardO_pos (by omega), Int.toNat_natCast, ry i (by omega)]
    try simp -implicitDefEqProofs only [Option.bind_some, low, rowSV_len, rowSV_cap, rowSV_tail, hL_next]
    have rx' := rx
    simp only [low] at rx'
    rw [rx']
    try simp -implicitDefEqProofs only [Option.bind_some, rowSV_len, rowSV_cap, rowSV_tail]
    rw [cc _ (okq i (by omega))]
    try simp -implicitDefEqProofs only [packQ, Option.bind_some]
    rw [hfound (by omega)]
  · rw [decide_eq_false hin]
    try simp -implicitDefEqProofs only [cond_false, Option.bind_some]
    rw [hnone (by omega)]
def withoutF (xs ys : List Fct) : List Fct := xs.filter fun x => !knownF ys x
theorem without_at {xs ys : List Fct} (hs : ys.Pairwise fun a b => cmpF a b < 0) (hn : ys.length < 2 ^ 60) (hok : ∀ y ∈ ys, okF y = true) (hx : xs.length ≤ 2 ^ 20) (sl0 : List Slot) :
    ∃ s sl o, arrival_without (rowSV true FC xs) (rowSV true FC ys) (hL sl0) = some (s, hL sl) ∧ Acc sl FC (withoutF xs ys) s o ∧ (∀ j, j < sl0.length → sl[j]? = sl0[j]?) ∧ (∀ id, o = some id → sl0.length ≤ id) := by
  obtain ⟨q, hq, s, sl, o, rfl, acc, old, ho⟩ := iter_inv (f := arrival_without.loop1 (rowSV true FC xs) (rowSV true FC ys))
    (Inv := fun st => ∃ (i : Nat) (s : SV) (sl : List Slot) (o : Option Nat), st = ((s, (i : Int)), hL sl) ∧ i ≤ xs.length ∧ Acc sl FC (withoutF (xs.take i) ys) s o ∧ (∀ j, j < sl0.length → sl[j]? = sl0[j]?) ∧ (∀ id, o = some id → sl0.length ≤ id) ∧ sl0.length ≤ sl.length)
    (Post := fun q => ∃ (s : SV) (sl : List Slot) (o : Option Nat), q = (.ex0 s, hL sl) ∧ Acc sl FC (withoutF xs ys) s o ∧ (∀ j, j < sl0.length → sl[j]? = sl0[j]?) ∧ (∀ id, o = some id → sl0.length ≤ id))
    (fun st => xs.length - st.1.2.toNat) (fun st hi => by
      obtain ⟨i, s, sl, o, rfl, hil, acc, old, ho, hsl⟩ := hi
      by_cases hlt : i < xs.length
      · left
        have hxi : xs[i]? = some xs[i] := List.getElem?_eq_getElem hlt
        obtain ⟨r, hr⟩ := Search_at (T := arrival_without.tb) (x := xs[i]) rfl hs hn hok (sl ++ [cFt true xs[i]])
        have hw := wr_new (sl := sl) (e := 6) (g := 6) (i := sl.length) (cs := [.int .i64 0, .int .i64 0, .int .i64 0, .int .i64 0, .slice .nil 0 0 false, .slice .nil 0 0 false]) (vs := LT.lo true FC xs[i]) rfl rfl rfl
        have q1 := (rds_cFt (sl := sl ++ [cFt true xs[i]]) (id := sl.length) (x := xs[i]) (f := true) (by simp)).1
        have q2 := (rds_cFt (sl := sl ++ [cFt true xs[i]] ++ [cFt true xs[i]]) (id := sl.length) (x := xs[i]) (f := true) (by simp)).1
        have tk : withoutF (xs.take (i + 1)) ys = withoutF (xs.take i) ys ++ (bif !knownF ys xs[i] then [xs[i]] else []) := by
          unfold withoutF
          rw [List.take_add_one, hxi, Option.toList_some, List.filter_append]
          cases h : knownF ys xs[i] <;> simp [h]
        have acc1 : Acc (sl ++ [cFt true xs[i]] ++ [cFt true xs[i]]) FC (withoutF (xs.take i) ys) s o := acc.more.more
        have hwl : (withoutF (xs.take i) ys).length ≤ i := by
          have := List.length_filter_le (fun x => !knownF ys x) (xs.take i)
          rw [List.length_take] at this
          unfold withoutF
          omega
        have old1 : ∀ j, j < sl0.length → (sl ++ [cFt true xs[i]] ++ [cFt true xs[i]])[j]? = sl0[j]? := fun j hj => by
          rw [List.append_assoc, List.getElem?_append_left (by omega), old j hj]
        have hw' : H.wrs (hL (sl ++ [.own [.int .i64 0, .int .i64 0, .int .i64 0, .int .i64 0, .slice .nil 0 0 false, .slice .nil 0 0 false] 6])) (.hp sl.length 6 0) [.int .i64 xs[i].1, .int .i64 xs[i].2.1, .int .i64 xs[i].2.2.1, .int .i64 xs[i].2.2.2.1, .slice (rowSV true j1 xs[i].2.2.2.2.1).a xs[i].2.2.2.2.1.length xs[i].2.2.2.2.1.length true, .slice (rowSV true t1 xs[i].2.2.2.2.2).a xs[i].2.2.2.2.2.length xs[i].2.2.2.2.2.length true] = some (hL (sl ++ [cFt true xs[i]])) := hw
        cases hk : knownF ys xs[i]
        · obtain ⟨s', sl', id', k1, k2, k3, k4, k5⟩ := acc1.append (w := 6) (b := 80) (x := xs[i]) (vs := LT.lo true FC xs[i]) rfl (by decide) (by omega) (by decide) rfl
          rw [hk] at hr
          have k1' : appendS (hL (sl ++ [cFt true xs[i]] ++ [cFt true xs[i]])) none 6 80 s [.int .i64 xs[i].1, .int .i64 xs[i].2.1, .int .i64 xs[i].2.2.1, .int .i64 xs[i].2.2.2.1, .slice (rowSV true j1 xs[i].2.2.2.2.1).a xs[i].2.2.2.2.1.length xs[i].2.2.2.2.1.length true, .slice (rowSV true t1 xs[i].2.2.2.2.2).a xs[i].2.2.2.2.2.length xs[i].2.2.2.2.2.length true] 1 = some (s', hL sl') := k1
          refine ⟨((s', ((i + 1 : Nat) : Int)), hL sl'), ?_, ⟨i + 1, s', sl', some id', rfl, by omega, ?_, fun j hj => ?_, fun id e => ?_, ?_⟩, by simp only [Int.toNat_natCast]; omega⟩
          · unfold arrival_without.loop1
            try simp -implicitDefEqProofs only [rowSV_len, Int.toNat_natCast]
            rw [decide_eq_true (by omega), cond_true, guardO_pos (by omega), rd_fact, hxi]
            try simp -implicitDefEqProofs only [Option.bind_some, Option.map_some, low, rowSV_len, rowSV_cap, rowSV_tail, hL_new, hL_next]
            rw [hw', Option.bind_some, q1, Option.bind_some]
            rw [hr, Option.bind_some]
            simp only [Bool.not_false, cond_true]
            rw [q2, Option.bind_some]
            try simp -implicitDefEqProofs only [low, rowSV_len, rowSV_cap, rowSV_tail]
            rw [k1', Option.bind_some]
            try simp -implicitDefEqProofs only [Option.bind_some]
            rw [i64_suc (by omega)]
          · rw [tk, hk]
            exact k2
          · rw [k5 j (fun e => by have := ho j e; omega) (by rw [List.length_append, List.length_append]; omega), old1 j hj]
          · cases e
            rcases k3 with h | ⟨_, h⟩
            · exact ho _ h
            · rw [h, List.length_append, List.length_append]; omega
          · rw [List.length_append, List.length_append] at k4; omega
        · rw [hk] at hr
          refine ⟨((s, ((i + 1 : Nat) : Int)), hL (sl ++ [cFt true xs[i]] ++ [cFt true xs[i]])), ?_, ⟨i + 1, s, _, o, rfl, by omega, ?_, old1, ho, by rw [List.length_append, List.length_append]; omega⟩, by simp only [Int.toNat_natCast]; omega⟩
          · unfold arrival_without.loop1
            try simp -implicitDefEqProofs only [rowSV_len, Int.toNat_natCast]
            rw [decide_eq_true (by omega), cond_true, guardO_pos (by omega), rd_fact, hxi]
            try simp -implicitDefEqProofs only [Option.bind_some, Option.map_some, low, rowSV_len, rowSV_cap, rowSV_tail, hL_new, hL_next]
            rw [hw', Option.bind_some, q1, Option.bind_some]
            rw [hr, Option.bind_some]
            simp only [Bool.not_true, cond_false, Option.bind_some]
            rw [i64_suc (by omega)]
          · rw [tk, hk]
            simpa using acc1
      · right
        have : i = xs.length := by omega
        subst this
        refine ⟨(.ex0 s, hL sl), ?_, s, sl, o, rfl, by rw [List.take_length] at acc; exact acc, old, ho⟩
        unfold arrival_without.loop1
        try simp -implicitDefEqProofs only [rowSV_len]
        rw [decide_eq_false (by omega), cond_false]) FUEL ((⟨.nil, 0, 0, false⟩, 0), hL sl0) ⟨0, _, sl0, none, rfl, Nat.zero_le _, Acc.nil, fun _ _ => rfl, (fun _ e => by cases e), Nat.le_refl _⟩ (fuel_gt (by simp only [Int.toNat_zero]; omega))
  refine ⟨s, sl, o, ?_, acc, old, ho⟩
  unfold arrival_without
  rw [hq]
  rfl
def differF (a b : List Fct) : List Fct × List Fct × Int :=
  if 1024 < a.length ∨ 1024 < b.length then ([], [], 8) else if checkL a = 0 ∧ checkL b = 0 then (withoutF (onceF a) (onceF b), withoutF (onceF b) (onceF a), 0) else ([], [], 1)
theorem differ_loop (a b : List Fct) (h : H) : iter FUEL (arrival_Differ.loop1 (rowSV false FC a) (rowSV false FC b)) (0, h) = some (if 1024 < a.length ∨ 1024 < b.length then (.ret (⟨.nil, 0, 0, false⟩, ⟨.nil, 0, 0, false⟩, 8), h) else (.ex0 (), h)) := by
  have s0 : arrival_Differ.loop1 (rowSV false FC a) (rowSV false FC b) (0, h) = some (bif decide ((1024 : Int) < (a.length : Int)) then .done (.ret (⟨.nil, 0, 0, false⟩, ⟨.nil, 0, 0, false⟩, 8), h) else .more (1, h)) := by
    unfold arrival_Differ.loop1
    have : rdT (.leaf .slice) h (.lp true [slV (rowSV false FC a), slV (rowSV false FC b)] 0) = some (rowSV false FC a) := rfl
    have this' : rdT (.leaf .slice) h (.lp true [.slice (rowSV false FC a).a a.length a.length true, .slice (rowSV false FC b).a b.length b.length true] (0 + Int.toNat 0 * 1)) = some (rowSV false FC a) := this
    try simp -implicitDefEqProofs only [rowSV_len, rowSV_cap, rowSV_tail]
    rw [decide_eq_true (by omega), cond_true, guardO_pos (by omega), this', Option.bind_some]
    try simp -implicitDefEqProofs only [rowSV_len]
    cases decide ((1024 : Int) < (a.length : Int)) <;> rfl
  have s1 : arrival_Differ.loop1 (rowSV false FC a) (rowSV false FC b) (1, h) = some (bif decide ((1024 : Int) < (b.length : Int)) then .done (.ret (⟨.nil, 0, 0, false⟩, ⟨.nil, 0, 0, false⟩, 8), h) else .more (2, h)) := by
    unfold arrival_Differ.loop1
    have : rdT (.leaf .slice) h (.lp true [slV (rowSV false FC a), slV (rowSV false FC b)] 1) = some (rowSV false FC b) := rfl
    have this' : rdT (.leaf .slice) h (.lp true [.slice (rowSV false FC a).a a.length a.length true, .slice (rowSV false FC b).a b.length b.length true] (0 + Int.toNat 1 * 1)) = some (rowSV false FC b) := this
    try simp -implicitDefEqProofs only [rowSV_len, rowSV_cap, rowSV_tail]
    rw [decide_eq_true (by omega), cond_true, guardO_pos (by omega), this', Option.bind_some]
    try simp -implicitDefEqProofs only [rowSV_len]
    cases decide ((1024 : Int) < (b.length : Int)) <;> rfl
  have s2 : arrival_Differ.loop1 (rowSV false FC a) (rowSV false FC b) (2, h) = some (.done (.ex0 (), h)) := by
    unfold arrival_Differ.loop1
    try simp -implicitDefEqProofs only []
    rw [decide_eq_false (by omega), cond_false]
  have fu : ∃ n, FUEL = n + 1 + 1 + 1 := ⟨FUEL - 3, by unfold FUEL; omega⟩
  obtain ⟨n, hn⟩ := fu
  rw [hn]
  by_cases ha : 1024 < a.length
  · rw [if_pos (.inl ha)]
    rw [decide_eq_true (show (1024 : Int) < (a.length : Int) by omega), cond_true] at s0
    simp only [iter, s0, Option.bind_some]
  · rw [decide_eq_false (show ¬ (1024 : Int) < (a.length : Int) by omega), cond_false] at s0
    by_cases hb : 1024 < b.length
    · rw [if_pos (.inr hb)]
      rw [decide_eq_true (show (1024 : Int) < (b.length : Int) by omega), cond_true] at s1
      simp only [iter, s0, s1, Option.bind_some]
    · rw [if_neg (fun h => h.elim ha hb)]
      rw [decide_eq_false (show ¬ (1024 : Int) < (b.length : Int) by omega), cond_false] at s1
      simp only [iter, s0, s1, s2, Option.bind_some]
theorem once_ok {l : List Fct} (h : ∀ x ∈ l, smallF x) : ∀ x ∈ onceF l, okF x = true := fun x hx => small_ok (once_small h x hx)
theorem Differ_ok (a b : List Fct) (ha : checkL a = 0 → a.length ≤ 19) (hb : checkL b = 0 → b.length ≤ 19) (hsa : ∀ x ∈ a, smallF x) (hsb : ∀ x ∈ b, smallF x) : arrival_DifferP a b = some (differF a b) := by
  unfold arrival_DifferP arrival_Differ differF
  rw [differ_loop]
  by_cases hbig : 1024 < a.length ∨ 1024 < b.length
  · rw [if_pos hbig, if_pos hbig]
    rfl
  rw [if_neg hbig, if_neg hbig, Option.bind_some]
  try simp -implicitDefEqProofs only [row_facts, Option.bind_some, checkP_ok]
  by_cases h1 : checkL a = 0
  case neg =>
    rw [decide_eq_false h1, if_neg (fun h => h1 h.1)]
    rfl
  by_cases h2 : checkL b = 0
  case neg =>
    rw [decide_eq_true h1, decide_eq_false h2, if_neg (fun h => h2 h.2)]
    rfl
  have hla := ha h1
  have hlb := hb h2
  have hoa := onceF_len a
  have hob := onceF_len b
  rw [decide_eq_true h1, decide_eq_true h2, if_pos ⟨h1, h2⟩]
  obtain ⟨s, sl, o, k1, acc, old, ho⟩ := without_at (onceF_sorted b) (by omega) (once_ok hsb) (xs := onceF a) (by omega) []
  obtain ⟨s', sl', o', k1', acc', old', ho'⟩ := without_at (onceF_sorted a) (by omega) (once_ok hsa) (xs := onceF b) (by omega) sl
  have accF : Acc sl' FC (withoutF (onceF a) (onceF b)) s o := acc.frame fun id e => by subst e; exact old' id acc.lt
  have R : rdRow false (hL sl') FC ⟨s.a, s.len, s.cap, s.tail⟩ = some (withoutF (onceF a) (onceF b)) := accF.read rfl
  have R' : rdRow false (hL sl') FC ⟨s'.a, s'.len, s'.cap, s'.tail⟩ = some (withoutF (onceF b) (onceF a)) := acc'.read rfl
  try simp -implicitDefEqProofs only [Bool.not_true, Bool.not_false, cond_true, cond_false, Option.bind_some, Set_ok a hla hsa, Set_ok b hlb hsb, hL_empty]
  have k1a : arrival_without (rowSV true [.int .i64, .int .i64, .int .i64, .int .i64, .row [.int .i64], .row [.str]] (onceF a)) (rowSV true [.int .i64, .int .i64, .int .i64, .int .i64, .row [.int .i64], .row [.str]] (onceF b)) (hL []) = some (s, hL sl) := k1
  have k1b : arrival_without (rowSV true [.int .i64, .int .i64, .int .i64, .int .i64, .row [.int .i64], .row [.str]] (onceF b)) (rowSV true [.int .i64, .int .i64, .int .i64, .int .i64, .row [.int .i64], .row [.str]] (onceF a)) (hL sl) = some (s', hL sl') := k1'
  try simp -implicitDefEqProofs only [k1a, k1b, Option.bind_some, evs, reduceIte, rdRes, rdTT, rdTy, rdLT, Res.un, TT.un, Ty.un, LT.un, Leaf.un, Leaf.plain, LT.plain, R, R']
end Go.Proofs.YtjkjcnadgpndoaaGreat
/- Law Arrives. No conditions but the arguments' form. -/
namespace Go.Proofs.YtjkjcnadgpndoaaGreat
open Go Go.Proofs.YtjkjcnadgpndoaaGreat.Ev
set_option linter.unusedVariables false
set_option linter.unusedSimpArgs false
set_option maxRecDepth 100000
set_option maxHeartbeats 4000000
/-- A row, or nothing. -/
def RowIs (y : SV) (xs : List Fct) : Prop := y = rowSV true FC xs ∨ (y = nilSV ∧ xs = [])
theorem RowIs.len {y : SV} {xs : List Fct} (h : RowIs y xs) : y.len = xs.length := by rcases h with rfl | ⟨rfl, rfl⟩ <;> rfl
theorem RowIs.read {y : SV} {xs : List Fct} (h : RowIs y xs) {h' : H} : rdRow true h' FC y = some xs := by
  rcases h with rfl | ⟨rfl, rfl⟩
  · exact row_facts
  · exact rdRow_nil
theorem RowIs.at_ {y : SV} {xs : List Fct} (h : RowIs y xs) {i : Nat} {x : Fct} (hi : xs[i]? = some x) {h' : H} : rdT (.agg FS) h' (V.add y.a (i * 6)) = some (low true x) := by
  rcases h with rfl | ⟨rfl, rfl⟩
  · rw [rd_fact, hi]; rfl
  · cases hi
theorem call32 {T : Table} (hT : T.dy.fn 32 = spilelaw54_ArrivalArrives_1.e) {f g : Fct} {b : Bool} {sl J : List Slot} {id : Nat} (h0 : sl[id]? = some (cFt b f)) (hg : okF g = true) {R : Type} (k : V → H → Option R) :
    callV T.dy (.func 32 [.hp id 6 0]) [argF true g] (hL (sl ++ J)) k = k (.bool (decide (cmpF g f = 0))) (hL (sl ++ (J ++ [cFt true g]))) := by
  have hl : id < sl.length := (List.getElem?_eq_some_iff.1 h0).1
  have r0 : rdT (.agg FS) (hL (sl ++ (J ++ [cFt true g]))) (.hp id 6 0) = some (low b f) := (rds_cFt (by rw [List.getElem?_append_left hl, h0])).1
  have r1 : rdT (.agg FS) (hL (sl ++ (J ++ [cFt true g]))) (.hp (sl ++ J).length 6 0) = some (low true g) := (rds_cFt (by rw [← List.append_assoc]; simp)).1
  show (T.dy.fn 32).cps [argF true g, .hp id 6 0] (hL (sl ++ J)) k = _
  rw [hT]
  show (spilelaw54_ArrivalArrives_1 (low true g) (.hp id 6 0) (hL (sl ++ J))).bind (fun p => k (.bool p.1) p.2) = _
  have : spilelaw54_ArrivalArrives_1 (low true g) (.hp id 6 0) (hL (sl ++ J)) = some (decide (cmpF g f = 0), hL (sl ++ (J ++ [cFt true g]))) := by
    obtain ⟨f0, f1, f2, f3, f4, f5⟩ := f
    obtain ⟨g0, g1, g2, g3, g4, g5⟩ := g
    unfold spilelaw54_ArrivalArrives_1
    try simp -implicitDefEqProofs only [low, rowSV_len, rowSV_cap, rowSV_tail, hL_new, hL_next]
    rw [List.append_assoc]
    have r0' := r0
    simp only [low] at r0' r1
    have e : (Slot.own [.int .i64 g0, .int .i64 g1, .int .i64 g2, .int .i64 g3, .slice (rowSV true [.int .i64] g4).a g4.length g4.length true, .slice (rowSV true [.str] g5).a g5.length g5.length true] 6) = cFt true (g0, g1, g2, g3, g4, g5) := rfl
    rw [e, r0', r1]
    try simp -implicitDefEqProofs only [Option.bind_some, row_ints', row_texts']
    rw [RCompare_ok _ _ hg]
    rfl
  rw [this]
  rfl
theorem any_rev {l : List Fct} {f : Fct} : ((onceF l).any fun g => decide (cmpF g f = 0)) = knownF l f := by
  rw [← any_same]
  have : ∀ xs : List Fct, (xs.any fun g => decide (cmpF g f = 0)) = xs.any fun g => decide (cmpF f g = 0) := fun xs => by
    induction xs with
    | nil => rfl
    | cons x xs ih =>
      rw [List.any_cons, List.any_cons, ih]
      have : decide (cmpF x f = 0) = decide (cmpF f x = 0) := decide_eq_decide.2 ⟨fun h => by rw [cmpF_to.zero _ _ h]; exact cmpF_self f, fun h => by rw [cmpF_to.zero _ _ h]; exact cmpF_self x⟩
      rw [this]
  exact this _
theorem checkL_sub {l l' : List Fct} (h : checkL l = 0) (hs : ∀ x ∈ l', x ∈ l) (hl : l'.length ≤ 1024) : checkL l' = 0 := by
  unfold checkL
  rw [if_neg (show ¬ (1024 : Int) < (l'.length : Int) by omega), if_neg]
  intro e
  obtain ⟨x, hx, k⟩ := List.any_eq_true.1 e
  have := (checkL_zero h).2 x (hs x hx)
  rw [decide_eq_true this] at k
  cases k
theorem arrives_loop1 {l : List Fct} (he : checkL l = 0) (h16 : l.length ≤ 16) (hs : ∀ x ∈ l, smallF x) (b0 : Slot) :
    ∃ y t, iter FUEL (spilelaw54_ArrivalArrives.loop1 (rowSV false FC l)) ((⟨.nil, 0, 0, false⟩, 0), hL [b0]) = some (.ex0 y, hL (b0 :: t)) ∧ RowIs y (onceF l) := by
  obtain ⟨q, hq, y, t, rfl, hy⟩ := iter_inv (f := spilelaw54_ArrivalArrives.loop1 (rowSV false FC l))
    (Inv := fun st => ∃ (i : Nat) (y : SV) (t : List Slot), st = ((y, (i : Int)), hL (b0 :: t)) ∧ i ≤ l.length ∧ RowIs y (onceF (l.take i)))
    (Post := fun q => ∃ (y : SV) (t : List Slot), q = (.ex0 y, hL (b0 :: t)) ∧ RowIs y (onceF l)) (fun st => l.length - st.1.2.toNat) (fun st hi => by
      obtain ⟨i, y, t, rfl, hil, hy⟩ := hi
      by_cases hlt : i < l.length
      · left
        have hxi : l[i]? = some l[i] := List.getElem?_eq_getElem hlt
        have hmem : l[i] ∈ l := List.getElem_mem hlt
        have htk : ∀ x ∈ l.take i, x ∈ l := fun x hx => List.mem_of_mem_take hx
        have hst : ∀ x ∈ l.take i, smallF x := fun x hx => hs x (htk x hx)
        have hol := onceF_len (l.take i)
        rw [List.length_take] at hol
        have hch : checkL (onceF (l.take i)) = 0 := checkL_sub he (fun x hx => htk x (onceF_mem.1 hx)) (by omega)
        have hcf : checkF l[i] = 0 := (checkL_zero he).2 _ hmem
        have A := Add_ok (onceF (l.take i)) l[i] (fun _ => by omega) (once_small hst) (hs _ hmem) (fun h => absurd hch h)
        have haf : addF (onceF (l.take i)) l[i] = (onceF (l.take (i + 1)), !knownF (l.take i) l[i], 0) := by
          unfold addF
          rw [if_pos hch, if_pos hcf, ← any_same (l := l.take i), List.take_add_one, hxi]
          have e1 : onceF (onceF (l.take i) ++ [l[i]]) = onceF (l.take i ++ [l[i]]) := onceF_same fun x => by simp only [List.mem_append, onceF_mem]
          rw [e1]
          rfl
        rw [haf] at A
        have CP := Cp_ok (onceF (l.take i)) (by omega) (once_small hst)
        have CY := Copy_ok l[i] (hs _ hmem)
        have hw := wr_new (sl := b0 :: t) (e := 6) (g := 6) (i := (b0 :: t).length) (cs := [.int .i64 0, .int .i64 0, .int .i64 0, .int .i64 0, .slice .nil 0 0 false, .slice .nil 0 0 false]) (vs := LT.lo false FC l[i]) rfl rfl rfl
        have hw' : H.wrs (hL (b0 :: t ++ [.own [.int .i64 0, .int .i64 0, .int .i64 0, .int .i64 0, .slice .nil 0 0 false, .slice .nil 0 0 false] 6])) (.hp (b0 :: t).length 6 0) [.int .i64 l[i].1, .int .i64 l[i].2.1, .int .i64 l[i].2.2.1, .int .i64 l[i].2.2.2.1, .slice (rowSV false j1 l[i].2.2.2.2.1).a l[i].2.2.2.2.1.length l[i].2.2.2.2.1.length true, .slice (rowSV false t1 l[i].2.2.2.2.2).a l[i].2.2.2.2.2.length l[i].2.2.2.2.2.length true] = some (hL (b0 :: t ++ [cFt false l[i]])) := hw
        have h0 : (b0 :: t ++ [cFt false l[i]])[(b0 :: t).length]? = some (cFt false l[i]) := by simp
        obtain ⟨J, hJ⟩ := ContainsF_grow (T := spilelaw54_ArrivalArrives.tb) (v := .func 32 [.hp (b0 :: t).length 6 0]) (B := b0 :: t ++ [cFt false l[i]]) (xs := onceF (l.take i)) (s := y) (f := true) (fun g => decide (cmpF g l[i] = 0)) hy.len (by omega)
          (fun i x hx J => hy.at_ hx) (fun g hg J R k => call32 rfl h0 (once_ok hst g hg) k)
        rw [any_rev] at hJ
        have r0 : rdT (.agg FS) (hL (b0 :: t ++ [cFt false l[i]] ++ J)) (.hp (b0 :: t).length 6 0) = some (low false l[i]) := (rds_cFt (by rw [List.getElem?_append_left (by simp), h0])).1
        refine ⟨_, ?_, ⟨i + 1, rowSV true FC (onceF (l.take (i + 1))), t ++ [cFt false l[i]] ++ J, rfl, by omega, .inl rfl⟩, by simp only [Int.toNat_natCast]; omega⟩
        unfold spilelaw54_ArrivalArrives.loop1
        try simp -implicitDefEqProofs only [rowSV_len, Int.toNat_natCast]
        rw [decide_eq_true (by omega), cond_true, guardO_pos (by omega), rd_fact, hxi]
        try simp -implicitDefEqProofs only [Option.bind_some, Option.map_some, low, rowSV_len, rowSV_cap, rowSV_tail, hL_new, hL_next]
        rw [hw', Option.bind_some, hJ, Option.bind_some]
        simp only [reserve0]
        have hrd := fun h => hy.read (h' := h)
        try simp -implicitDefEqProofs only [hrd, Option.bind_some, CP, r0, low, row_ints', row_texts', row_facts]
        have CY' : spileref53_CopyP (l[i].1, l[i].2.1, l[i].2.2.1, l[i].2.2.2.1, l[i].2.2.2.2.1, l[i].2.2.2.2.2) = some l[i] := CY
        have A' : arrival_AddP (onceF (l.take i)) (l[i].1, l[i].2.1, l[i].2.2.1, l[i].2.2.2.1, l[i].2.2.2.2.1, l[i].2.2.2.2.2) = _ := A
        rw [CY', Option.bind_some]
        try simp -implicitDefEqProofs only [row_ints', row_texts', Option.bind_some, A', eq_self, decide_true, Bool.not_true, Bool.not_false, cond_true]
        rw [i64_suc (by omega)]
        cases knownF (l.take i) l[i] <;> rfl
      · right
        have : i = l.length := by omega
        subst this
        refine ⟨(.ex0 y, hL (b0 :: t)), ?_, y, t, rfl, by rw [List.take_length] at hy; exact hy⟩
        unfold spilelaw54_ArrivalArrives.loop1
        try simp -implicitDefEqProofs only [rowSV_len]
        rw [decide_eq_false (by omega), cond_false]) FUEL ((⟨.nil, 0, 0, false⟩, 0), hL [b0]) ⟨0, _, [], rfl, Nat.zero_le _, .inr ⟨rfl, rfl⟩⟩ (fuel_gt (by simp only [Int.toNat_zero]; omega))
  exact ⟨y, t, hq, hy⟩
theorem arrives_loop2 {xs : List Fct} {y : SV} (hy : RowIs y xs) (hx : xs.Pairwise fun a b => cmpF a b < 0) (hl : xs.length ≤ 2 ^ 20) (hok : ∀ x ∈ xs, okF x = true) (h : H) : iter FUEL (spilelaw54_ArrivalArrives.loop2 y) (0, h) = some (.ex0 (), h) := by
  refine iter_from (fun i => ((i : Int), h)) rfl xs.length FUEL (fun i hi => ?_) ?_ (fuel_gt (by omega))
  · unfold spilelaw54_ArrivalArrives.loop2
    try simp -implicitDefEqProofs only [hy.len, reserve0, Int.toNat_natCast]
    rw [decide_eq_true (by omega), cond_true]
    by_cases h0 : (0 : Int) < (i : Int)
    · have e1 : xs[i - 1]? = some xs[i - 1] := List.getElem?_eq_getElem (by omega)
      have e2 : xs[i]? = some xs[i] := List.getElem?_eq_getElem hi
      have hc : cmpF xs[i - 1] xs[i] < 0 := List.pairwise_iff_getElem.1 hx (i - 1) i (by omega) hi (by omega)
      rw [decide_eq_true h0, cond_true, i64q (z := (i : Int) - 1) (m := i - 1) (by omega) (by omega), guardO_pos (by omega), Int.toNat_natCast, hy.at_ e1]
      try simp -implicitDefEqProofs only [Option.bind_some, low]
      rw [guardO_pos (by omega), hy.at_ e2]
      try simp -implicitDefEqProofs only [Option.bind_some, low, row_ints', row_texts']
      have C : fact_CompareP (xs[i - 1].1, xs[i - 1].2.1, xs[i - 1].2.2.1, xs[i - 1].2.2.2.1, xs[i - 1].2.2.2.2.1, xs[i - 1].2.2.2.2.2) (xs[i].1, xs[i].2.1, xs[i].2.2.1, xs[i].2.2.2.1, xs[i].2.2.2.2.1, xs[i].2.2.2.2.2) = some (cmpF xs[i - 1] xs[i]) := Compare_ok xs[i - 1] xs[i] (hok _ (List.getElem_mem _))
      rw [C]
      try simp -implicitDefEqProofs only [Option.bind_some]
      rw [decide_eq_false (by omega), cond_false, i64_suc (by omega)]
    · rw [decide_eq_false h0, cond_false]
      try simp -implicitDefEqProofs only [Option.bind_some, cond_false]
      rw [i64_suc (by omega)]
  · unfold spilelaw54_ArrivalArrives.loop2
    try simp -implicitDefEqProofs only [hy.len]
    rw [decide_eq_false (by omega), cond_false]
end Go.Proofs.YtjkjcnadgpndoaaGreat
/- Law Arrives. No conditions but the arguments' form. -/
namespace Go.Proofs.YtjkjcnadgpndoaaGreat
open Go Go.Proofs.YtjkjcnadgpndoaaGreat.Ev
set_option linter.unusedVariables false
set_option linter.unusedSimpArgs false
set_option maxRecDepth 100000
set_option maxHeartbeats 4000000
theorem without_same {xs ys : List Fct} (h : ∀ x ∈ xs, x ∈ ys) : withoutF xs ys = [] := by
  unfold withoutF
  rw [List.filter_eq_nil_iff]
  intro x hx
  rw [known_iff.2 (h x hx)]
  decide
theorem ArrivalArrives_ok (l : List Fct) (hx : TT.ok [.leaf (.row FC)] l) : spilelaw54_ArrivalArrivesP l = some true := by
  have ok := okL (l := l) hx
  have F := Few_ok l ok.1 ok.2
  have FS := few_small (l := l)
  unfold spilelaw54_ArrivalArrivesP spilelaw54_ArrivalArrives
  cases hs : fewF l
  · rw [hs] at F
    try simp -implicitDefEqProofs only [evs, reduceIte, rdRes, rdTT, rdTy, rdLT, Res.un, TT.un, Ty.un, LT.un, Leaf.un, Leaf.plain, LT.plain, awake_ok, Option.bind_some, row_facts, F, Bool.not_true, Bool.not_false, cond_true, cond_false]
  · rw [hs] at F
    by_cases h16 : (16 : Int) < (l.length : Int)
    · simp -implicitDefEqProofs only [evs, reduceIte, rdRes, rdTT, rdTy, rdLT, Res.un, TT.un, Ty.un, LT.un, Leaf.un, Leaf.plain, LT.plain, awake_ok, Option.bind_some, row_facts, F, Bool.not_true, Bool.not_false, cond_true, cond_false, rowSV_len, decide_eq_true h16]
    obtain ⟨h1, h2⟩ := FS hs
    have CP := Cp_ok l (by omega) h2
    have M := Merge_ok l (fun e => by omega)
    have SM := fun b => SameM_self (l := l) (m := (mergeF l).1) b rfl
    by_cases he : checkL l = 0
    case neg =>
      have hm : mergeF l = (([], [], [], []), checkL l) := by unfold mergeF; rw [if_neg he]
      rw [hm] at M
      try simp -implicitDefEqProofs only [evs, reduceIte, rdRes, rdTT, rdTy, rdLT, Res.un, TT.un, Ty.un, LT.un, Leaf.un, Leaf.plain, LT.plain, awake_ok, Option.bind_some, row_facts, F, Bool.not_true, Bool.not_false, cond_true, cond_false, rowSV_len, decide_eq_false h16, hL_empty, CP, M, wr_m4, decide_eq_false he]
      have D1 : rdT (.leaf .slice) (hL ([] ++ [bM ([], [], [], [])])) (.hp (hL []).next 4 0) = some (rowSV true FC []) := rd_m40 rfl
      rw [D1]
      rfl
    have hmz : (mergeF l).2 = 0 := by unfold mergeF; rw [if_pos he]
    have hoc : checkL (onceF l) = 0 := checkL_sub he (fun x hx => onceF_mem.1 hx) (by have := onceF_len l; omega)
    have hol := onceF_len l
    have hos := once_small h2
    have hme : mergeF (onceF l) = mergeF l := mergeF_same (fun f => onceF_mem) (by omega) (by omega)
    have CPo := Cp_ok (onceF l) (by omega) hos
    have M2 := Merge_ok (onceF l) (fun e => by omega)
    rw [hme] at M2
    have D := Differ_ok (onceF l) l (fun _ => by omega) (fun _ => by omega) hos h2
    have hd : differF (onceF l) l = ([], [], 0) := by
      unfold differF
      rw [if_neg (by omega), if_pos ⟨hoc, he⟩, without_same (fun x hx => by rw [onceF_mem, onceF_mem] at hx; exact onceF_mem.2 hx), without_same (fun x hx => by rw [onceF_mem, onceF_mem]; exact onceF_mem.1 hx)]
    rw [hd] at D
    obtain ⟨⟨⟨m1, m2, m3, m4⟩, me⟩, hm⟩ : ∃ m, m = mergeF l := ⟨_, rfl⟩
    rw [← hm] at M M2 SM hmz
    simp only at hmz
    subst hmz
    obtain ⟨y, t, k1, hy⟩ := arrives_loop1 he (by omega) h2 (bM (m1, m2, m3, m4))
    have k2 := arrives_loop2 hy (onceF_sorted l) (by omega) (once_ok h2)
    have hrd := fun h => hy.read (h' := h)
    have SM' := SM (m1, m2, m3, m4)
    simp only [decide_true] at SM'
    try simp -implicitDefEqProofs only [evs, reduceIte, rdRes, rdTT, rdTy, rdLT, Res.un, TT.un, Ty.un, LT.un, Leaf.un, Leaf.plain, LT.plain, awake_ok, Option.bind_some, row_facts, F, Bool.not_true, Bool.not_false, cond_true, cond_false, rowSV_len, decide_eq_false h16, hL_empty, CP, M, wr_m4, eq_self, decide_true, List.nil_append]
    have k1' : iter FUEL (spilelaw54_ArrivalArrives.loop1 (rowSV false [.int .i64, .int .i64, .int .i64, .int .i64, .row [.int .i64], .row [.str]] l)) ((⟨.nil, 0, 0, false⟩, 0), hL [bM (m1, m2, m3, m4)]) = _ := k1
    rw [k1']
    try simp -implicitDefEqProofs only [Option.bind_some, k2, hrd, CPo, row_facts, M2, wr_m4, CP, D]
    have D0 : rdT (.agg [.slice, .slice, .slice, .slice]) (hL (bM (m1, m2, m3, m4) :: t ++ [bM (m1, m2, m3, m4)])) (.hp (hL []).next 4 0) = some (rowSV true FC m1, rowSV true KC m2, rowSV true KC m3, rowSV true KC m4) := rd_m4 rfl
    have D1 : rdT (.agg [.slice, .slice, .slice, .slice]) (hL (bM (m1, m2, m3, m4) :: t ++ [bM (m1, m2, m3, m4)])) (.hp (hL (bM (m1, m2, m3, m4) :: t)).next 4 0) = some (rowSV true FC m1, rowSV true KC m2, rowSV true KC m3, rowSV true KC m4) := rd_m4 (by rw [hL_next]; simp)
    try simp -implicitDefEqProofs only [Option.bind_some, D0, D1, row_facts, row_keys', SM', cond_true, eq_self, decide_true, List.length_nil]
    rfl
end Go.Proofs.YtjkjcnadgpndoaaGreat
