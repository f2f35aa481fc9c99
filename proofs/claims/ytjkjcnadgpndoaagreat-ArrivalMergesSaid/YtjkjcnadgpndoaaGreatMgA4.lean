/- What the functions of this seat compute, and the evaluator: some texts in one. Conditions: those of each law. -/
import Derived.Test.YtjkjcnadgpndoaaGreatEvRow
import Derived.Test.YtjkjcnadgpndoaaGreatMgA3
/- The reference's Means and Merge: the same. Conditions: at most 2^11 facts where none is wrong. -/
namespace Go.Proofs.YtjkjcnadgpndoaaGreat
open Go Go.Proofs.YtjkjcnadgpndoaaGreat.Ev
set_option linter.unusedVariables false
set_option linter.unusedSimpArgs false
set_option maxRecDepth 100000
set_option maxHeartbeats 4000000
theorem rd_cOut3 {sl : List Slot} {id : Nat} {a b c d : SV} (h : sl[id]? = some (cOut a b c d)) : rdT (.leaf .slice) (hL sl) (.hp id 4 3) = some d := by
  rw [rd_own (g := 4) h rfl]; rfl
theorem wr_cOut3 {sl : List Slot} {id : Nat} {a b c d : SV} (h : sl[id]? = some (cOut a b c d)) (s : SV) : H.wrs (hL sl) (.hp id 4 3) [.slice s.a s.len s.cap s.tail] = some (hL (sl.set id (cOut a b c s))) := by
  rw [wrs_own (g := 4) h rfl (by simp)]; rfl
structure MI (sl : List Slot) (con : SV) (fs : List Fct) (ids rfs : List Ky) : Prop where
  zero : sl[0]? = some n4
  out : ∃ s1 o1 s3 o3 s4 o4, sl[1]? = some (cOut s1 con s3 s4) ∧ Acc sl FC fs s1 o1 ∧ Acc sl KC ids s3 o3 ∧ Acc sl KC rfs s4 o4 ∧ (∀ j, o1 = some j → 1 < j ∧ o3 ≠ some j ∧ o4 ≠ some j) ∧ (∀ j, o3 = some j → 1 < j ∧ o4 ≠ some j) ∧ (∀ j, o4 = some j → 1 < j)
  len : 2 ≤ sl.length
theorem MI.more {sl : List Slot} {con : SV} {fs : List Fct} {ids rfs : List Ky} (m : MI sl con fs ids rfs) (t : List Slot) : MI (sl ++ t) con fs ids rfs := by
  obtain ⟨z, ⟨s1, o1, s3, o3, s4, o4, h, A, B, C, d1, d2, d3⟩, l⟩ := m
  exact ⟨by rw [get_app (by omega)]; exact z, ⟨s1, o1, s3, o3, s4, o4, by rw [get_app (by omega)]; exact h, A.more, B.more, C.more, d1, d2, d3⟩, by rw [List.length_append]; omega⟩
theorem MI.fact {sl : List Slot} {con : SV} {fs : List Fct} {ids rfs : List Ky} (m : MI sl con fs ids rfs) (hn : fs.length ≤ 2 ^ 20) (x : Fct) :
    ∃ s1 sA s' sl5, rdT (.leaf .slice) (hL sl) (.hp 1 4 0) = some s1 ∧ appendS (hL sl) none 6 80 s1 (cellsF true x) 1 = some (s', hL sA) ∧ H.wrs (hL sA) (.hp 1 4 0) [.slice s'.a s'.len s'.cap s'.tail] = some (hL sl5) ∧ MI sl5 con (fs ++ [x]) ids rfs := by
  obtain ⟨z, ⟨s1, o1, s3, o3, s4, o4, h, A, B, C, d1, d2, d3⟩, l⟩ := m
  obtain ⟨s', sA, id', k1, k2, k3, k4, k5⟩ := A.append (w := 6) (b := 80) (x := x) (vs := cellsF true x) rfl (by decide) (by omega) (by decide) rfl
  have n1 : o1 ≠ some 1 := fun e => by have := (d1 1 e).1; omega
  have n0 : o1 ≠ some 0 := fun e => by have := (d1 0 e).1; omega
  have hA : sA[1]? = some (cOut s1 con s3 s4) := by rw [k5 1 n1 (by omega)]; exact h
  have hid : 1 < id' ∧ o3 ≠ some id' ∧ o4 ≠ some id' := by
    rcases k3 with k3 | ⟨_, k3⟩
    · exact d1 _ k3
    · refine ⟨by omega, fun e => ?_, fun e => ?_⟩
      · subst e; have := B.lt; omega
      · subst e; have := C.lt; omega
  refine ⟨s1, sA, s', sA.set 1 (cOut s' con s3 s4), (rd_cOut h).1, k1, (wr_cOut hA s').1, ⟨?_, ⟨s', some id', s3, o3, s4, o4, ?_, ?_, ?_, ?_, fun j e => by cases e; exact hid, d2, d3⟩, by rw [List.length_set]; omega⟩⟩
  · rw [List.getElem?_set_ne (by omega), k5 0 n0 (by omega)]; exact z
  · rw [List.getElem?_set_self (by omega)]
  · exact k2.frame fun j e => by cases e; rw [List.getElem?_set_ne (by omega)]
  · exact B.frame fun j e => by
      rw [List.getElem?_set_ne (by have := (d2 j e).1; omega)]
      exact k5 j (fun e2 => (d1 j e2).2.1 e) (by subst e; exact B.lt)
  · exact C.frame fun j e => by
      rw [List.getElem?_set_ne (by have := d3 j e; omega)]
      exact k5 j (fun e2 => (d1 j e2).2.2 e) (by subst e; exact C.lt)
theorem MI.idle {sl : List Slot} {con : SV} {fs : List Fct} {ids rfs : List Ky} (m : MI sl con fs ids rfs) (hn : ids.length ≤ 2 ^ 20) (x : Ky) :
    ∃ s1 sA s' sl5, rdT (.leaf .slice) (hL sl) (.hp 1 4 2) = some s1 ∧ appendS (hL sl) none 3 24 s1 [.int .i64 x.1, .int .i64 x.2.1, .int .i64 x.2.2] 1 = some (s', hL sA) ∧ H.wrs (hL sA) (.hp 1 4 2) [.slice s'.a s'.len s'.cap s'.tail] = some (hL sl5) ∧ MI sl5 con fs (ids ++ [x]) rfs := by
  obtain ⟨z, ⟨s1, o1, s3, o3, s4, o4, h, A, B, C, d1, d2, d3⟩, l⟩ := m
  obtain ⟨s', sA, id', k1, k2, k3, k4, k5⟩ := B.append (w := 3) (b := 24) (x := x) (vs := LT.lo true KC x) rfl (by decide) (by omega) (by decide) rfl
  have n1 : o3 ≠ some 1 := fun e => by have := (d2 1 e).1; omega
  have n0 : o3 ≠ some 0 := fun e => by have := (d2 0 e).1; omega
  have hA : sA[1]? = some (cOut s1 con s3 s4) := by rw [k5 1 n1 (by omega)]; exact h
  have hid : 1 < id' ∧ o4 ≠ some id' ∧ o1 ≠ some id' := by
    rcases k3 with k3 | ⟨_, k3⟩
    · exact ⟨(d2 _ k3).1, (d2 _ k3).2, fun e => (d1 _ e).2.1 k3⟩
    · refine ⟨by omega, fun e => ?_, fun e => ?_⟩
      · subst e; have := C.lt; omega
      · subst e; have := A.lt; omega
  refine ⟨s3, sA, s', sA.set 1 (cOut s1 con s' s4), (rd_cOut h).2.1, k1, (wr_cOut hA s').2, ⟨?_, ⟨s1, o1, s', some id', s4, o4, ?_, ?_, ?_, ?_, fun j e => ⟨(d1 j e).1, fun e2 => by cases e2; exact hid.2.2 e, (d1 j e).2.2⟩, fun j e => by cases e; exact ⟨hid.1, hid.2.1⟩, d3⟩, by rw [List.length_set]; omega⟩⟩
  · rw [List.getElem?_set_ne (by omega), k5 0 n0 (by omega)]; exact z
  · rw [List.getElem?_set_self (by omega)]
  · exact A.frame fun j e => by
      rw [List.getElem?_set_ne (by have := (d1 j e).1; omega)]
      exact k5 j (fun e2 => (d1 j e).2.1 e2) (by subst e; exact A.lt)
  · exact k2.frame fun j e => by cases e; rw [List.getElem?_set_ne (by omega)]
  · exact C.frame fun j e => by
      rw [List.getElem?_set_ne (by have := d3 j e; omega)]
      exact k5 j (fun e2 => (d2 j e2).2 e) (by subst e; exact C.lt)
theorem MI.refuse {sl : List Slot} {con : SV} {fs : List Fct} {ids rfs : List Ky} (m : MI sl con fs ids rfs) (hn : rfs.length ≤ 2 ^ 20) (x : Ky) :
    ∃ s1 sA s' sl5, rdT (.leaf .slice) (hL sl) (.hp 1 4 3) = some s1 ∧ appendS (hL sl) none 3 24 s1 [.int .i64 x.1, .int .i64 x.2.1, .int .i64 x.2.2] 1 = some (s', hL sA) ∧ H.wrs (hL sA) (.hp 1 4 3) [.slice s'.a s'.len s'.cap s'.tail] = some (hL sl5) ∧ MI sl5 con fs ids (rfs ++ [x]) := by
  obtain ⟨z, ⟨s1, o1, s3, o3, s4, o4, h, A, B, C, d1, d2, d3⟩, l⟩ := m
  obtain ⟨s', sA, id', k1, k2, k3, k4, k5⟩ := C.append (w := 3) (b := 24) (x := x) (vs := LT.lo true KC x) rfl (by decide) (by omega) (by decide) rfl
  have n1 : o4 ≠ some 1 := fun e => by have := d3 1 e; omega
  have n0 : o4 ≠ some 0 := fun e => by have := d3 0 e; omega
  have hA : sA[1]? = some (cOut s1 con s3 s4) := by rw [k5 1 n1 (by omega)]; exact h
  have hid : 1 < id' ∧ o3 ≠ some id' ∧ o1 ≠ some id' := by
    rcases k3 with k3 | ⟨_, k3⟩
    · exact ⟨d3 _ k3, fun e => (d2 _ e).2 k3, fun e => (d1 _ e).2.2 k3⟩
    · refine ⟨by omega, fun e => ?_, fun e => ?_⟩
      · subst e; have := B.lt; omega
      · subst e; have := A.lt; omega
  refine ⟨s4, sA, s', sA.set 1 (cOut s1 con s3 s'), rd_cOut3 h, k1, wr_cOut3 hA s', ⟨?_, ⟨s1, o1, s3, o3, s', some id', ?_, ?_, ?_, ?_, fun j e => ⟨(d1 j e).1, (d1 j e).2.1, fun e2 => by cases e2; exact hid.2.2 e⟩, fun j e => ⟨(d2 j e).1, fun e2 => by cases e2; exact hid.2.1 e⟩, fun j e => by cases e; exact hid.1⟩, by rw [List.length_set]; omega⟩⟩
  · rw [List.getElem?_set_ne (by omega), k5 0 n0 (by omega)]; exact z
  · rw [List.getElem?_set_self (by omega)]
  · exact A.frame fun j e => by
      rw [List.getElem?_set_ne (by have := (d1 j e).1; omega)]
      exact k5 j (fun e2 => (d1 j e).2.2 e2) (by subst e; exact A.lt)
  · exact B.frame fun j e => by
      rw [List.getElem?_set_ne (by have := (d2 j e).1; omega)]
      exact k5 j (fun e2 => (d2 j e).2 e2) (by subst e; exact B.lt)
  · exact k2.frame fun j e => by cases e; rw [List.getElem?_set_ne (by omega)]
/-! ### Means -/
def idlB (C : List Fct) (c : Fct) : Bool := corrects c && !refF C c && !(C.find? fun g => decide (keyF g = keyF (targetF c).1)).isSome
def idlP (C D : List Fct) : List Ky := (D.filter (idlB C)).map keyF
def facP (C D : List Fct) : List Fct := D.filterMap (effO C)
theorem facP_snoc (C D : List Fct) (c : Fct) : facP C (D ++ [c]) = facP C D ++ (effO C c).toList := by
  unfold facP
  rw [List.filterMap_append]
  cases h : effO C c <;> simp [h]
theorem idlP_snoc (C D : List Fct) (c : Fct) : idlP C (D ++ [c]) = idlP C D ++ if idlB C c = true then [keyF c] else [] := by
  unfold idlP
  rw [List.filter_append]
  cases h : idlB C c <;> simp [h]
theorem rfsP_snoc (C D : List Fct) (c : Fct) : rfsF C (D ++ [c]) = rfsF C D ++ if (corrects c && refF C c) = true then [keyF c] else [] := by
  rw [rfsF_snoc]
  cases corrects c && refF C c <;> simp
theorem eff_R (C : List Fct) (f : Fct) (h : corrects f = false) : effO C f = if (effR C f C).2 = true then some (effR C f C).1 else none := by
  unfold effO effF effR
  rw [if_neg (by rw [h]; simp)]
  cases (corF C C (keyF f)).getLast? with
  | none => rfl
  | some c => simp only [decide_eq_true_eq]
theorem means_round {C : List Fct} {h1 : H} {sl : List Slot} {con : SV} {i : Nat} {c : Fct} (h1n : h1.next = 1) (hC : C.length ≤ 2 ^ 11) (hs : ∀ c ∈ C, smallF c) (hc : C[i]? = some c) (m : MI sl con (facP C (C.take i)) (idlP C (C.take i)) (rfsF C (C.take i))) :
    ∃ sl2, spileref54_Means.loop1 h1 C ((i : Int), hL sl) = some (.more (((i + 1 : Nat) : Int), hL sl2)) ∧ MI sl2 con (facP C (C.take (i + 1))) (idlP C (C.take (i + 1))) (rfsF C (C.take (i + 1))) := by
  have hi := (List.getElem?_eq_some_iff.1 hc).1
  have hcs := hs c (List.mem_of_getElem? hc)
  have htl : (C.take i).length ≤ 2 ^ 11 := by rw [List.length_take]; omega
  have l1 : (facP C (C.take i)).length ≤ 2 ^ 20 := by have := List.length_filterMap_le (effO C) (C.take i); unfold facP; omega
  have l2 : (idlP C (C.take i)).length ≤ 2 ^ 20 := by unfold idlP; rw [List.length_map]; exact len_filter _ _ _ (by omega)
  have l3 : (rfsF C (C.take i)).length ≤ 2 ^ 20 := by unfold rfsF; rw [List.length_map]; exact len_filter _ _ _ (by omega)
  rw [take_snoc hc, facP_snoc, idlP_snoc, rfsP_snoc]
  have K := RCorrects_ok c
  cases hcor : corrects c with
  | false =>
    obtain ⟨t, E⟩ := Effect_ok C c (by omega) hs sl
    have E' : spileref54_effect (rowSV true FC C) (c.1, c.2.1, c.2.2.1, c.2.2.2.1, rowSV true j1 c.2.2.2.2.1, rowSV true t1 c.2.2.2.2.2) (hL sl) = _ := E
    have m2 := m.more (t ++ [cFt true (effR C c C).1])
    rw [← List.append_assoc] at m2
    have b1 : idlB C c = false := by unfold idlB; rw [hcor]; rfl
    rw [b1, Bool.false_and, if_neg Bool.false_ne_true, List.append_nil, List.append_nil, eff_R C c hcor]
    cases hok : (effR C c C).2 with
    | false =>
      rw [if_neg Bool.false_ne_true, Option.toList_none, List.append_nil]
      refine ⟨sl ++ t ++ [cFt true (effR C c C).1], ?_, m2⟩
      unfold spileref54_Means.loop1
      try simp -implicitDefEqProofs only [Int.toNat_natCast]
      rw [decide_eq_true (by omega), cond_true, guardO_pos (by omega), rd_fact, hc]
      try simp -implicitDefEqProofs only [Option.bind_some, Option.map_some, low, row_ints', row_texts', K, hcor, Bool.not_false, cond_true]
      rw [guardO_pos (by omega), E']
      try simp -implicitDefEqProofs only [Option.bind_some, hL_new, hL_next, low, rowSV_len, rowSV_cap, rowSV_tail, wr_fact, hok, cond_false]
      rw [i64_suc (by omega)]
    | true =>
      obtain ⟨s1, sA, s', sl5, e1, e2, e3, m3⟩ := m2.fact l1 (effR C c C).1
      rw [if_pos rfl, Option.toList_some]
      refine ⟨sl5, ?_, m3⟩
      unfold spileref54_Means.loop1
      try simp -implicitDefEqProofs only [Int.toNat_natCast]
      rw [decide_eq_true (by omega), cond_true, guardO_pos (by omega), rd_fact, hc]
      try simp -implicitDefEqProofs only [Option.bind_some, Option.map_some, low, row_ints', row_texts', K, hcor, Bool.not_false, cond_true]
      rw [guardO_pos (by omega), E']
      try simp -implicitDefEqProofs only [Option.bind_some, hL_new, hL_next, low, rowSV_len, rowSV_cap, rowSV_tail, wr_fact, hok, cond_true, h1n, e1, rd_fact_all new_at, e2, e3]
      rw [i64_suc (by omega)]
  | true =>
    have heff : effO C c = none := by rw [effO, if_pos hcor]
    rw [heff, Option.toList_none, List.append_nil]
    have R := Refused_ok C c (by omega) hcor hcs
    cases hr : refF C c with
    | true =>
      obtain ⟨s1, sA, s', sl5, e1, e2, e3, m3⟩ := m.refuse l3 (keyF c)
      have b1 : idlB C c = false := by unfold idlB; rw [hcor, hr]; rfl
      rw [b1, Bool.true_and, if_neg Bool.false_ne_true, if_pos rfl, List.append_nil]
      refine ⟨sl5, ?_, m3⟩
      unfold spileref54_Means.loop1
      try simp -implicitDefEqProofs only [Int.toNat_natCast]
      rw [decide_eq_true (by omega), cond_true, guardO_pos (by omega), rd_fact, hc]
      try simp -implicitDefEqProofs only [Option.bind_some, Option.map_some, low, row_ints', row_texts', K, hcor, Bool.not_true, cond_false]
      rw [guardO_pos (by omega), row_facts]
      try simp -implicitDefEqProofs only [Option.bind_some, Option.map_some, low, row_ints', row_texts', row_facts, R, hr, cond_true, reserve0, h1n, e1]
      rw [guardO_pos (by omega), guardO_pos (nn_fact (by omega)), key_row, hc]
      try simp -implicitDefEqProofs only [Option.bind_some, Option.map_some, e2, e3]
      rw [i64_suc (by omega)]
    | false =>
      have T := RTarget_ok c hcor hcs.1 hcs.2
      have F := Find_ok C (keyF (targetF c).1) (by omega)
      have m2 := m.more [cFt true (targetF c).1]
      have w1 : H.wrs (hL (sl ++ [.own zF 6])) (.hp sl.length 6 0) (cellsF true (targetF c).1) = some (hL (sl ++ [cFt true (targetF c).1])) := wr_fact
      have F' : spileref54_findP C ((targetF c).1.1, (targetF c).1.2.1, (targetF c).1.2.2.1) = _ := F
      have kt : rdT KeyT (hL (sl ++ [cFt true (targetF c).1])) (.hp sl.length 6 0) = some (keyF (targetF c).1) := rd_fact_key new_at
      rw [Bool.true_and, if_neg (c := (false = true)) Bool.false_ne_true, List.append_nil]
      have open1 : ∀ {R : Option (Stp (Int × H) (Flow Unit (SV × SV × SV × SV) × H))},
          ((bif decide (idxOf (fun g => decide (keyF g = keyF (targetF c).1)) C < 0) then ((rdT (.leaf .slice) (hL (sl ++ [cFt true (targetF c).1])) (.hp 1 4 2)).bind fun x53 => (guardO (0 ≤ (i : Int) ∧ (i : Int) < ((C.length : Nat) : Int)) (guardO (V.nn ((V.add (rowSV true FC C).a (i * 6)) : V) = true) ((rdT KeyT (hL (sl ++ [cFt true (targetF c).1])) (V.add (V.add (rowSV true FC C).a (i * 6)) 0)).bind fun x54 =>
            ((appendS (hL (sl ++ [cFt true (targetF c).1])) none 3 24 x53 [.int .i64 x54.1, .int .i64 x54.2.1, .int .i64 x54.2.2] 1).bind fun q => ((H.wrs q.2 (.hp 1 4 2) [.slice q.1.a q.1.len q.1.cap q.1.tail]).bind fun h59 => (some (Flow.next (), h59)))))))) else (some (Flow.next (), hL (sl ++ [cFt true (targetF c).1]))) : Option (Flow Unit (SV × SV × SV × SV) × H)).bind fun q => match q.1 with
          | .next _ => (some (.more ((IntKind.wrap .i64 ((i : Int) + 1)), q.2)))
          | .ret rr62 => (some (.done (.ret rr62, q.2)))
          | .ex0 _ => none
          | .ex1 _ => none) = R → spileref54_Means.loop1 h1 C ((i : Int), hL sl) = R := fun hR => by
        rw [← hR]
        unfold spileref54_Means.loop1
        try simp -implicitDefEqProofs only [Int.toNat_natCast]
        rw [decide_eq_true (by omega), cond_true, guardO_pos (by omega), rd_fact, hc]
        try simp -implicitDefEqProofs only [Option.bind_some, Option.map_some, low, row_ints', row_texts', K, hcor, Bool.not_true, cond_false]
        rw [guardO_pos (by omega), row_facts]
        try simp -implicitDefEqProofs only [Option.bind_some, Option.map_some, low, row_ints', row_texts', row_facts, R, hr, cond_false]
        rw [guardO_pos (by omega)]
        try simp -implicitDefEqProofs only [Option.bind_some, Option.map_some, low, row_ints', row_texts', T, hL_new, hL_next, w1, kt, row_facts, F, reserve0, h1n]
        rfl
      rcases find_idx (fun g => decide (keyF g = keyF (targetF c).1)) C with ⟨f1, f2⟩ | ⟨k, g, f1, f2, f3⟩
      · obtain ⟨s1, sA, s', sl5, e1, e2, e3, m3⟩ := m2.idle l2 (keyF c)
        have b1 : idlB C c = true := by unfold idlB; rw [hcor, hr, f2]; rfl
        rw [b1, if_pos rfl]
        refine ⟨sl5, open1 ?_, m3⟩
        rw [decide_eq_true f1, cond_true, e1]
        try simp -implicitDefEqProofs only [Option.bind_some]
        rw [guardO_pos (by omega), guardO_pos (nn_fact (by omega)), key_row, hc]
        try simp -implicitDefEqProofs only [Option.bind_some, Option.map_some, e2, e3]
        rw [i64_suc (by omega)]
      · have b1 : idlB C c = false := by unfold idlB; rw [f3]; simp
        rw [b1, if_neg Bool.false_ne_true, List.append_nil]
        refine ⟨_, open1 ?_, m2⟩
        rw [f1, decide_eq_false (by omega), cond_false, Option.bind_some, i64_suc (by omega)]
theorem means_loop {C : List Fct} {h1 : H} {con : SV} {sl : List Slot} (h1n : h1.next = 1) (hC : C.length ≤ 2 ^ 11) (hs : ∀ c ∈ C, smallF c) (m : MI sl con [] [] []) :
    ∃ sl2, iter FUEL (spileref54_Means.loop1 h1 C) (0, hL sl) = some (.ex0 (), hL sl2) ∧ MI sl2 con (factsF C) (idleF C) (rfsF C C) := by
  obtain ⟨q, hq, hp⟩ := iter_inv (f := spileref54_Means.loop1 h1 C) (Inv := fun st => ∃ (i : Nat) (sl2 : List Slot), st = ((i : Int), hL sl2) ∧ i ≤ C.length ∧ MI sl2 con (facP C (C.take i)) (idlP C (C.take i)) (rfsF C (C.take i)))
    (Post := fun q => ∃ sl2, q = (.ex0 (), hL sl2) ∧ MI sl2 con (factsF C) (idleF C) (rfsF C C)) (fun st => C.length - st.1.toNat) (fun st hi => by
      obtain ⟨i, sl2, rfl, hil, m⟩ := hi
      by_cases hlt : i < C.length
      · left
        obtain ⟨sl3, e, m3⟩ := means_round h1n hC hs (List.getElem?_eq_getElem hlt) m
        exact ⟨_, e, ⟨i + 1, sl3, rfl, by omega, m3⟩, by simp only [Int.toNat_natCast]; omega⟩
      · right
        have : i = C.length := by omega
        subst this
        rw [List.take_length] at m
        refine ⟨(.ex0 (), hL sl2), ?_, sl2, rfl, m⟩
        unfold spileref54_Means.loop1
        try simp -implicitDefEqProofs only []
        rw [decide_eq_false (by omega), cond_false]) FUEL (0, hL sl) ⟨0, sl, rfl, Nat.zero_le _, m⟩ (fuel_gt (by simp only [Int.toNat_zero]; omega))
  obtain ⟨sl2, rfl, m2⟩ := hp
  exact ⟨sl2, hq, m2⟩
theorem cntF_len (r : List Fct) : (cntF r).length ≤ r.length := Nat.le_trans (List.length_filterMap_le _ _) (ksF_len r)
theorem res4' {h : H} {s1 s3 s2 s4 : SV} {fs : List Fct} {k3 k2 k4 : List Ky} (h1 : rdRow false h FC s1 = some fs) (h3 : rdRow false h KC s3 = some k3) (h2 : rdRow false h KC s2 = some k2) (h4 : rdRow false h KC s4 = some k4) :
    rdRes false h (.one (.agg [.row FC, .row KC, .row KC, .row KC])) (Res.un (.one (.agg [.slice, .slice, .slice, .slice])) (s1, s3, s2, s4)) = some (fs, k3, k2, k4) := by
  have g1 : rdRow false h FC ⟨s1.a, s1.len, s1.cap, s1.tail⟩ = some fs := h1
  have g3 : rdRow false h KC ⟨s3.a, s3.len, s3.cap, s3.tail⟩ = some k3 := h3
  have g2 : rdRow false h KC ⟨s2.a, s2.len, s2.cap, s2.tail⟩ = some k2 := h2
  have g4 : rdRow false h KC ⟨s4.a, s4.len, s4.cap, s4.tail⟩ = some k4 := h4
  try simp -implicitDefEqProofs only [evs, reduceIte, rdRes, rdTT, rdTy, rdLT, Res.un, TT.un, Ty.un, LT.un, Leaf.un, Leaf.plain, LT.plain, g1, g2, g3, g4]
theorem Means_ok (l : List Fct) (hl : l.length ≤ 2 ^ 11) (hs : ∀ x ∈ l, smallF x) : spileref54_MeansP l = some (meansF (onceF l)) := by
  obtain ⟨r, hr⟩ : ∃ r, r = onceF l := ⟨_, rfl⟩
  have hrl : r.length ≤ 2 ^ 11 := by have := onceF_len l; rw [hr]; omega
  have hcl := cntF_len r
  have hcs : ∀ c ∈ cntF r, smallF c := fun c hc => hs c (by have := (cntF_mem.1 hc).1; rw [hr] at this; exact onceF_mem.1 this)
  obtain ⟨con, hcon⟩ : ∃ con, con = rowSV true KC (conF r) := ⟨_, rfl⟩
  have m0 : MI [n4, cOut nilSV con nilSV nilSV] con [] [] [] := ⟨rfl, ⟨nilSV, none, nilSV, none, nilSV, none, rfl, Acc.nil, Acc.nil, Acc.nil, fun j e => (by cases e), fun j e => (by cases e), fun j e => (by cases e)⟩, by simp⟩
  obtain ⟨sl2, e1, m⟩ := means_loop (C := cntF r) (h1 := hL [n4]) (con := con) rfl (by omega) hcs m0
  obtain ⟨z, ⟨s1, o1, s3, o3, s4, o4, out, A, B, D, d1, d2, d3⟩, len⟩ := m
  have w0 : H.wrs (hL [n4, n4]) (.hp 1 4 1) [.slice (rowSV true KC (conF r)).a (conF r).length (conF r).length true] = some (hL [n4, cOut nilSV con nilSV nilSV]) := by
    rw [hcon, wrs_own (sl := [n4, n4]) (id := 1) (g := 4) (e := 4) (cs := [.slice .nil 0 0 false, .slice .nil 0 0 false, .slice .nil 0 0 false, .slice .nil 0 0 false]) rfl rfl (by simp)]; rfl
  have w1 : H.wrs (hL sl2) (.hp 0 4 0) [.slice s1.a s1.len s1.cap s1.tail, .slice con.a con.len con.cap con.tail, .slice s3.a s3.len s3.cap s3.tail, .slice s4.a s4.len s4.cap s4.tail] = some (hL (sl2.set 0 (cOut s1 con s3 s4))) := wr_n4 z rfl
  have q7 := (rd_cOut (sl := sl2.set 0 (cOut s1 con s3 s4)) (id := 0) (List.getElem?_set_self (by omega))).2.2
  have g6 : ∀ j, 1 < j → (sl2.set 0 (cOut s1 con s3 s4))[j]? = sl2[j]? := fun j hj => by rw [List.getElem?_set_ne (by omega)]
  have A' := A.frame (sl' := sl2.set 0 (cOut s1 con s3 s4)) fun j e => g6 j (d1 j e).1
  have B' := B.frame (sl' := sl2.set 0 (cOut s1 con s3 s4)) fun j e => g6 j (d2 j e).1
  have D' := D.frame (sl' := sl2.set 0 (cOut s1 con s3 s4)) fun j e => g6 j (d3 j e)
  have hc : rdRow false (hL (sl2.set 0 (cOut s1 con s3 s4))) KC con = some (conF r) := by rw [hcon]; exact rdRow_res rfl
  unfold spileref54_MeansP spileref54_Means
  try simp -implicitDefEqProofs only [hL_empty, hL_new, hL_next, List.nil_append, row_facts, Option.bind_some, Counting_ok l hl hs, ← hr, List.cons_append, List.length_cons, List.length_nil, Nat.zero_add]
  rw [w0, Option.bind_some]
  rw [e1, Option.bind_some]
  simp only
  rw [(rd_cOut out).2.2]
  simp only [Option.bind_some, w1, q7]
  rw [res4' (A'.read rfl) hc (B'.read rfl) (D'.read rfl)]
  rfl
theorem RMerge_ok (l : List Fct) (hl : checkL l = 0 → l.length ≤ 2 ^ 11) : spileref54_MergeP l = some (mergeF l) := by
  have C := RcheckL_ok l
  unfold spileref54_MergeP spileref54_Merge mergeF
  by_cases he : checkL l = 0
  · have M := Means_ok l (hl he) (checkL_small he)
    rw [if_pos he]
    obtain ⟨⟨m1, m2, m3, m4⟩, hm⟩ : ∃ m, meansF (onceF l) = m := ⟨_, rfl⟩
    rw [hm] at M
    have w1 : H.wrs (hL [n4]) (.hp 0 4 0) [.slice (rowSV true FC m1).a m1.length m1.length true, .slice (rowSV true KC m2).a m2.length m2.length true, .slice (rowSV true KC m3).a m3.length m3.length true, .slice (rowSV true KC m4).a m4.length m4.length true] = some (hL [cOut (rowSV true FC m1) (rowSV true KC m2) (rowSV true KC m3) (rowSV true KC m4)]) := wr_n4 (sl := [n4]) (i := 0) (a := rowSV true FC m1) (b := rowSV true KC m2) (c := rowSV true KC m3) (d := rowSV true KC m4) rfl rfl
    have r1 := (rd_cOut (sl := [cOut (rowSV true FC m1) (rowSV true KC m2) (rowSV true KC m3) (rowSV true KC m4)]) (id := 0) rfl).2.2
    try simp -implicitDefEqProofs only [hL_empty, hL_new, hL_next, List.nil_append, row_facts, Option.bind_some, C, he, eq_self, decide_true, Bool.not_true, cond_false, M, List.length_nil]
    simp only [w1, Option.bind_some, r1]
    rw [hm]
    exact res4 (rdRow_res rfl) (rdRow_res rfl) (rdRow_res rfl) (rdRow_res rfl)
  · rw [if_neg he]
    try simp -implicitDefEqProofs only [hL_empty, hL_new, hL_next, row_facts, Option.bind_some, C, decide_eq_false he, Bool.not_false, cond_true]
    rfl
end Go.Proofs.YtjkjcnadgpndoaaGreat
/- Trace, and the reference's: the same. Conditions: at most 19 facts where none is wrong. -/
namespace Go.Proofs.YtjkjcnadgpndoaaGreat
open Go Go.Proofs.YtjkjcnadgpndoaaGreat.Ev
set_option linter.unusedVariables false
set_option linter.unusedSimpArgs false
set_option maxRecDepth 100000
set_option maxHeartbeats 4000000
def traceF (l : List Fct) (k : Ky) : List Ky × Int := if checkL l = 0 then ((corF (cntF (onceF l)) (cntF (onceF l)) k).map keyF, 0) else ([], checkL l)
theorem trace_loop {x8 : SV} {sl : List Slot} {row : List Fct} (hlen : x8.len = row.length) (hrow : row.length = 0 ∨ ∃ id, x8 = ownSV id FC row.length ∧ sl[id]? = some (.own (cellsL FC row) 6)) (hl : row.length ≤ 2 ^ 20) :
    ∃ sl2 s o, iter FUEL (arrival_Trace.loop1 x8) ((⟨.nil, 0, 0, false⟩, 0), hL sl) = some (.ex0 s, hL sl2) ∧ Acc sl2 KC (row.map keyF) s o := by
  obtain ⟨q, hq, hp⟩ := iter_inv (f := arrival_Trace.loop1 x8) (Inv := fun st => ∃ (i : Nat) (s : SV) (sl2 : List Slot) (o : Option Nat), st = ((s, (i : Int)), hL sl2) ∧ i ≤ row.length ∧ Acc sl2 KC ((row.take i).map keyF) s o ∧ (∀ j, j < sl.length → sl2[j]? = sl[j]?) ∧ (∀ j, o = some j → sl.length ≤ j) ∧ sl.length ≤ sl2.length)
    (Post := fun q => ∃ sl2 s o, q = (.ex0 s, hL sl2) ∧ Acc sl2 KC (row.map keyF) s o) (fun st => row.length - st.1.2.toNat) (fun st hi => by
      obtain ⟨i, s, sl2, o, rfl, hil, A, old, ho, hl2⟩ := hi
      by_cases hlt : i < row.length
      · left
        rcases hrow with h0 | ⟨id, rfl, hc⟩
        · omega
        have hx : row[i]? = some row[i] := List.getElem?_eq_getElem hlt
        have hidl := (List.getElem?_eq_some_iff.1 hc).1
        have of := own_fact (sl := sl2) (by rw [old id hidl]; exact hc) hx
        have A1 : Acc (sl2 ++ [cFt true row[i]]) KC ((row.take i).map keyF) s o := A.more
        obtain ⟨s', sl3, id', k1, k2, k3, k4, k5⟩ := A1.append (w := 3) (b := 24) (x := keyF row[i]) (vs := LT.lo true KC (keyF row[i])) rfl (by decide) (by rw [List.length_map, List.length_take]; omega) (by decide) rfl
        have k1' : appendS (hL (sl2 ++ [cFt true row[i]])) none 3 24 s [.int .i64 (keyF row[i]).1, .int .i64 (keyF row[i]).2.1, .int .i64 (keyF row[i]).2.2] 1 = some (s', hL sl3) := k1
        rw [len_app1] at k3 k4 k5
        refine ⟨((s', ((i + 1 : Nat) : Int)), hL sl3), ?_, ⟨i + 1, s', sl3, some id', rfl, by omega, by rw [take_snoc hx, List.map_append]; exact k2, fun j hj => ?_, fun j e => ?_, by omega⟩, by simp only [Int.toNat_natCast]; omega⟩
        · unfold arrival_Trace.loop1
          try simp -implicitDefEqProofs only [Int.toNat_natCast]
          rw [hlen, decide_eq_true (by omega), cond_true, guardO_pos (by omega), of]
          try simp -implicitDefEqProofs only [Option.bind_some, hL_new, hL_next, low, rowSV_len, rowSV_cap, rowSV_tail, wr_fact, rd_fact_key new_at, k1']
          rw [i64_suc (by omega)]
        · rw [k5 j (fun e => by have := ho j e; omega) (by omega), get_app (by omega)]
          exact old j hj
        · cases e
          rcases k3 with k3 | ⟨_, k3⟩
          · exact ho _ k3
          · omega
      · right
        have : i = row.length := by omega
        subst this
        rw [List.take_length] at A
        refine ⟨(.ex0 s, hL sl2), ?_, sl2, s, o, rfl, A⟩
        unfold arrival_Trace.loop1
        try simp -implicitDefEqProofs only []
        rw [hlen, decide_eq_false (by omega), cond_false]) FUEL ((⟨.nil, 0, 0, false⟩, 0), hL sl) ⟨0, _, sl, none, rfl, Nat.zero_le _, Acc.nil, fun _ _ => rfl, fun j e => (by cases e), Nat.le_refl _⟩ (fuel_gt (by simp only [Int.toNat_zero]; omega))
  obtain ⟨sl2, s, o, rfl, A⟩ := hp
  exact ⟨sl2, s, o, hq, A⟩
theorem res_keys {h : H} {s : SV} {ks : List Ky} {e : Int} (hs : rdRow false h KC s = some ks) : rdRes false h (.many [.leaf (.row KC), .leaf (.int .i64)]) (Res.un (.many [.leaf .slice, .leaf (.int .i64)]) (s, e)) = some (ks, e) := by
  have g : rdRow false h KC ⟨s.a, s.len, s.cap, s.tail⟩ = some ks := hs
  try simp -implicitDefEqProofs only [evs, reduceIte, rdRes, rdTT, rdTy, rdLT, Res.un, TT.un, Ty.un, LT.un, Leaf.un, Leaf.plain, LT.plain, g]
theorem Trace_ok (l : List Fct) (k : Ky) (hl : checkL l = 0 → l.length ≤ 19) : arrival_TraceP l k = some (traceF l k) := by
  obtain ⟨k0, k1, k2⟩ := k
  unfold arrival_TraceP arrival_Trace traceF
  by_cases he : checkL l = 0
  · have hsm := checkL_small he
    obtain ⟨slR, s3, s4, p1, R⟩ := read_ok (hl he) hsm (a0 := rowSV false FC l) (fun h => row_facts) []
    obtain ⟨Rlen, Rold, Rcnt, ⟨lo, E, hlo, F⟩, _⟩ := R
    simp only [List.length_nil, Nat.zero_add] at p1 F
    have hrow := F.look (k0, k1, k2) ⟨.nil, 0, 0, false⟩
    have hlen : (corF (cntF (onceF l)) (cntF (onceF l)) (k0, k1, k2)).length ≤ 2 ^ 20 := by
      have h1 := cntF_len (onceF l)
      have h2 := onceF_len l
      have h3 := hl he
      exact len_filter _ _ _ (by omega)
    rw [if_pos he]
    have kk : rdT KeyT H.empty (.lp true [.int .i64 k0, .int .i64 k1, .int .i64 k2] 0) = some (k0, k1, k2) := rfl
    try simp -implicitDefEqProofs only [hL_empty, row_facts, Option.bind_some, checkP_ok, he, eq_self, decide_true, Bool.not_true, cond_false, hL_reserve, List.replicate, List.append_nil]
    rw [p1, Option.bind_some]
    rw [hL_empty] at kk
    simp only [kk, Option.bind_some]
    rcases hrow with ⟨h0, hlook⟩ | ⟨id, hne, hlook, hcell, _⟩
    · rw [hlook]
      obtain ⟨sl2, s, o, e1, A⟩ := trace_loop (x8 := ⟨.nil, 0, 0, false⟩) (sl := slR) (row := []) rfl (.inl rfl) (by simp)
      simp only [Option.bind_some, e1]
      rw [h0]
      exact res_keys (A.read rfl)
    · rw [hlook]
      obtain ⟨sl2, s, o, e1, A⟩ := trace_loop (x8 := ownSV id FC (corF (cntF (onceF l)) (cntF (onceF l)) (k0, k1, k2)).length) (sl := slR) (row := corF (cntF (onceF l)) (cntF (onceF l)) (k0, k1, k2)) rfl (.inr ⟨id, rfl, hcell⟩) hlen
      simp only [Option.bind_some, e1]
      exact res_keys (A.read rfl)
  · rw [if_neg he]
    try simp -implicitDefEqProofs only [hL_empty, row_facts, Option.bind_some, checkP_ok, decide_eq_false he, Bool.not_false, cond_true]
    exact res_keys rdRow_nil
theorem RTrace_ok (l : List Fct) (k : Ky) (hl : checkL l = 0 → l.length ≤ 2 ^ 11) : spileref54_TraceP l k = some (traceF l k) := by
  have CH := RcheckL_ok l
  by_cases he : checkL l = 0
  case neg =>
    obtain ⟨k0, k1, k2⟩ := k
    unfold spileref54_TraceP spileref54_Trace traceF
    rw [if_neg he]
    try simp -implicitDefEqProofs only [hL_empty, hL_new, row_facts, Option.bind_some, CH, decide_eq_false he, Bool.not_false, cond_true]
    exact res_keys rdRow_nil
  have hsm := checkL_small he
  obtain ⟨C, hC⟩ : ∃ C, C = cntF (onceF l) := ⟨_, rfl⟩
  have hCl : C.length ≤ 2 ^ 11 := by
    have h1 := cntF_len (onceF l)
    have h2 := onceF_len l
    have h3 := hl he
    rw [hC]; omega
  have hCs : ∀ c ∈ C, smallF c := fun c hc => hsm c (by rw [hC] at hc; exact onceF_mem.1 (cntF_mem.1 hc).1)
  obtain ⟨q, hq, hp⟩ := iter_inv (f := spileref54_Trace.loop1 (hL []) C) (Inv := fun st => ∃ (i : Nat) (s : SV) (sl : List Slot) (o : Option Nat), st = ((s, (i : Int)), hL sl) ∧ i ≤ C.length ∧ Acc sl KC ((corF C (C.take i) k).map keyF) s o ∧ sl[0]? = some (cKy k) ∧ (∀ j, o = some j → 0 < j))
    (Post := fun q => ∃ sl s o, q = (.ex0 s, hL sl) ∧ Acc sl KC ((corF C C k).map keyF) s o) (fun st => C.length - st.1.2.toNat) (fun st hi => by
      obtain ⟨i, s, sl, o, rfl, hil, A, hz, ho⟩ := hi
      have hn0 : (hL ([] : List Slot)).next = 0 := rfl
      by_cases hlt : i < C.length
      · left
        obtain ⟨c, hc⟩ : ∃ c, c = C[i] := ⟨_, rfl⟩
        have hx : C[i]? = some c := by rw [hc]; exact List.getElem?_eq_getElem hlt
        have hcs : smallF c := hCs c (List.mem_of_getElem? hx)
        have hzl := (List.getElem?_eq_some_iff.1 hz).1
        have htk : C.take (i + 1) = C.take i ++ [c] := take_snoc hx
        have K := RCorrects_ok c
        have hstep := corF_snoc C (C.take i) c k
        rw [← htk] at hstep
        cases hcr : corrects c && !refF C c with
        | false =>
          refine ⟨((s, ((i + 1 : Nat) : Int)), hL sl), ?_, ⟨i + 1, s, sl, o, rfl, by omega, ?_, hz, ho⟩, by simp only [Int.toNat_natCast]; omega⟩
          · unfold spileref54_Trace.loop1
            try simp -implicitDefEqProofs only [Int.toNat_natCast]
            rw [decide_eq_true (by omega), cond_true, guardO_pos (by omega), rd_fact, hx]
            try simp -implicitDefEqProofs only [Option.bind_some, Option.map_some, low, row_ints', row_texts', K, row_facts]
            cases hcor : corrects c with
            | false =>
              try simp -implicitDefEqProofs only [Bool.not_false, Bool.not_true, cond_false, Option.bind_some, cond_true]
              rw [i64_suc (by omega)]
            | true =>
              have hr : refF C c = true := by rw [hcor] at hcr; simpa using hcr
              try simp -implicitDefEqProofs only [Bool.not_false, Bool.not_true, cond_false, Option.bind_some, cond_true]
              rw [guardO_pos (by omega)]
              try simp -implicitDefEqProofs only [Option.bind_some, row_facts, row_ints', row_texts', Refused_ok C c (by omega) hcor hcs, hr, cond_true]
              rw [i64_suc (by omega)]
          · rw [hstep, hcr, Bool.false_and, if_neg Bool.false_ne_true]; exact A
        | true =>
          simp only [Bool.and_eq_true, Bool.not_eq_true'] at hcr
          obtain ⟨hcor, hr⟩ := hcr
          have T := RTarget_ok c hcor hcs.1 hcs.2
          have A1 : Acc (sl ++ [cFt true (targetF c).1]) KC ((corF C (C.take i) k).map keyF) s o := A.more
          have hz1 : (sl ++ [cFt true (targetF c).1])[0]? = some (cKy k) := by rw [get_app hzl]; exact hz
          have kz : rdT KeyT (hL (sl ++ [cFt true (targetF c).1])) (.hp 0 3 0) = some k := rd_key_all hz1
          have kt : rdT KeyT (hL (sl ++ [cFt true (targetF c).1])) (.hp sl.length 6 0) = some (keyF (targetF c).1) := rd_fact_key new_at
          have hlen : ((corF C (C.take i) k).map keyF).length ≤ 2 ^ 20 := by rw [List.length_map]; exact len_filter _ _ _ (by rw [List.length_take]; omega)
          obtain ⟨s', sl3, id', k1, k2, k3, k4, k5⟩ := A1.append (w := 3) (b := 24) (x := keyF c) (vs := LT.lo true KC (keyF c)) rfl (by decide) (by omega) (by decide) rfl
          have k1' : appendS (hL (sl ++ [cFt true (targetF c).1])) none 3 24 s [.int .i64 (keyF c).1, .int .i64 (keyF c).2.1, .int .i64 (keyF c).2.2] 1 = some (s', hL sl3) := k1
          have open1 : ∀ {R : Option (Stp ((SV × Int) × H) (Flow SV (SV × Int) × H))},
              ((bif decide (keyF (targetF c).1 = k) then (guardO (0 ≤ (i : Int) ∧ (i : Int) < ((C.length : Nat) : Int)) (guardO (V.nn ((V.add (rowSV true FC C).a (i * 6)) : V) = true) ((rdT KeyT (hL (sl ++ [cFt true (targetF c).1])) (V.add (V.add (rowSV true FC C).a (i * 6)) 0)).bind fun x30 => ((appendS (hL (sl ++ [cFt true (targetF c).1])) none 3 24 s [.int .i64 x30.1, .int .i64 x30.2.1, .int .i64 x30.2.2] 1).bind fun q => (some (Flow.next q.1, q.2)))))) else (some (Flow.next s, hL (sl ++ [cFt true (targetF c).1]))) : Option (Flow SV (SV × Int) × H)).bind fun q => match q.1 with
              | .next y37 => (some (.more ((y37, (IntKind.wrap .i64 ((i : Int) + 1))), q.2)))
              | .ret rr38 => (some (.done (.ret rr38, q.2)))
              | .ex0 _ => none
              | .ex1 _ => none) = R → spileref54_Trace.loop1 (hL []) C ((s, (i : Int)), hL sl) = R := fun hR => by
            rw [← hR]
            unfold spileref54_Trace.loop1
            try simp -implicitDefEqProofs only [Int.toNat_natCast]
            rw [decide_eq_true (by omega), cond_true, guardO_pos (by omega), rd_fact, hx]
            try simp -implicitDefEqProofs only [Option.bind_some, Option.map_some, low, row_ints', row_texts', K, row_facts, hcor, Bool.not_true, Bool.not_false, cond_true]
            rw [guardO_pos (by omega)]
            try simp -implicitDefEqProofs only [Option.bind_some, row_facts, row_ints', row_texts', Refused_ok C c (by omega) hcor hcs, hr, cond_false]
            rw [guardO_pos (by omega), hn0, rd_fact, hx]
            try simp -implicitDefEqProofs only [Option.bind_some, Option.map_some, low, row_ints', row_texts', T, hL_new, hL_next, wr_fact, kt, kz, key_and]
            rfl
          by_cases hk : keyF (targetF c).1 = k
          · refine ⟨((s', ((i + 1 : Nat) : Int)), hL sl3), open1 ?_, ⟨i + 1, s', sl3, some id', rfl, by omega, ?_, ?_, fun j e => ?_⟩, by simp only [Int.toNat_natCast]; omega⟩
            · rw [decide_eq_true hk, cond_true, guardO_pos (by omega), guardO_pos (nn_fact (by omega)), key_row, hx]
              try simp -implicitDefEqProofs only [Option.bind_some, Option.map_some, k1']
              rw [i64_suc (by omega)]
            · rw [hstep, hcor, hr, decide_eq_true hk, if_pos (by simp), List.map_append]; exact k2
            · rw [k5 0 (fun e => by have := ho 0 e; omega) (by rw [len_app1]; omega)]; exact hz1
            · cases e
              rcases k3 with k3 | ⟨_, k3⟩
              · exact ho _ k3
              · rw [k3, len_app1]; omega
          · refine ⟨((s, ((i + 1 : Nat) : Int)), hL (sl ++ [cFt true (targetF c).1])), open1 ?_, ⟨i + 1, s, _, o, rfl, by omega, ?_, hz1, ho⟩, by simp only [Int.toNat_natCast]; omega⟩
            · rw [decide_eq_false hk, cond_false, Option.bind_some, i64_suc (by omega)]
            · rw [hstep, hcor, hr, decide_eq_false hk, if_neg (by simp)]; exact A1
      · right
        have : i = C.length := by omega
        subst this
        rw [List.take_length] at A
        refine ⟨(.ex0 s, hL sl), ?_, sl, s, o, rfl, A⟩
        unfold spileref54_Trace.loop1
        try simp -implicitDefEqProofs only []
        rw [decide_eq_false (by omega), cond_false]) FUEL ((⟨.nil, 0, 0, false⟩, 0), hL [cKy k]) ⟨0, _, [cKy k], none, rfl, Nat.zero_le _, Acc.nil, rfl, fun j e => by cases e⟩ (fuel_gt (by simp only [Int.toNat_zero]; omega))
  obtain ⟨sl, s, o, rfl, A⟩ := hp
  obtain ⟨k0, k1, k2⟩ := k
  unfold spileref54_TraceP spileref54_Trace traceF
  rw [if_pos he]
  try simp -implicitDefEqProofs only [hL_empty, hL_new, List.nil_append, row_facts, Option.bind_some, CH, he, eq_self, decide_true, Bool.not_true, cond_false, Counting_ok l (hl he) hsm]
  rw [← hC]
  have hq' : iter FUEL (spileref54_Trace.loop1 (hL []) C) ((⟨.nil, 0, 0, false⟩, 0), hL [.own [.int .i64 k0, .int .i64 k1, .int .i64 k2] 3]) = _ := hq
  rw [hq', Option.bind_some]
  exact res_keys (A.read rfl)
end Go.Proofs.YtjkjcnadgpndoaaGreat
/- Correct and Undo, and the reference's: the same. Conditions: lists that are not too long. -/
namespace Go.Proofs.YtjkjcnadgpndoaaGreat
open Go Go.Proofs.YtjkjcnadgpndoaaGreat.Ev
set_option linter.unusedVariables false
set_option linter.unusedSimpArgs false
set_option maxRecDepth 100000
set_option maxHeartbeats 4000000
/-- A correction if it is right and has its form. -/
def makeF (x : Fct) : Fct × Int := if checkF x = 0 then (if (targetF x).2 = true then (x, 0) else (zeroF, 1)) else (zeroF, 1)
def corrOf (own target : Ky) (f : Fct) : Fct := (own.1, own.2.1, own.2.2, 90, [target.1, target.2.1, target.2.2, f.2.2.2.1] ++ f.2.2.2.2.1, f.2.2.2.2.2)
def afterS (sl : List Slot) (at_ : Option Nat) (o : Option Slot) : H :=
  match o with
  | none => hL sl
  | some s => match at_ with
    | none => hL (sl ++ [s])
    | some i => hL (sl.set i s)
theorem put3 {s0 s1 s2 s3 s : Slot} {t : List Slot} : H.put (hL (s0 :: s1 :: s2 :: s3 :: t)) 3 s = hL (s0 :: s1 :: s2 :: s :: t) := by rw [hL_put (by simp only [List.length_cons]; omega)]; rfl
theorem app4 {a b c d : Int} {nums : List Int} {at_ : Option Nat} {sl : List Slot} (hn : nums.length ≤ 2 ^ 20) (hat : ∀ i, at_ = some i → i < sl.length) :
    ∃ s14 o, appendS (hL sl) at_ 1 8 ⟨.lp true [.int .i64 a, .int .i64 b, .int .i64 c, .int .i64 d] 0, 4, 4, false⟩ (cellsL j1 nums) nums.length = some (s14, afterS sl at_ o) ∧
      (∀ lp sl', (∀ s, o = some s → sl'[at_.getD sl.length]? = some s) → rdRow lp (hL sl') j1 s14 = some ([a, b, c, d] ++ nums)) := by
  by_cases h0 : nums.length = 0
  · have : nums = [] := List.eq_nil_of_length_eq_zero h0
    subst this
    refine ⟨⟨.lp true [.int .i64 a, .int .i64 b, .int .i64 c, .int .i64 d] 0, 4, 4, false⟩, none, ?_, fun lp h _ => ?_⟩
    · simp only [appendS, appendV]
      rw [if_pos (show ([] : List Int).length = 0 from rfl)]
      rfl
    · exact rdRow_res (xs := ([a, b, c, d] : List (LT j1))) rfl
  · refine ⟨ownSV (at_.getD sl.length) j1 ([a, b, c, d] ++ nums).length, some (.own (cellsL j1 ([a, b, c, d] ++ nums)) 1), ?_, fun lp h hh => ?_⟩
    · have hc : cellsOf (hL sl) (.slice (.lp true [.int .i64 a, .int .i64 b, .int .i64 c, .int .i64 d] 0) 4 4 false) 1 = some (4, [.int .i64 a, .int .i64 b, .int .i64 c, .int .i64 d]) := rfl
      have hl : ([a, b, c, d] ++ nums).length = 4 + nums.length := by simp; omega
      simp only [appendS, appendV]
      rw [if_neg h0, guardO_pos ⟨by unfold roomCells; omega, by decide⟩, if_neg (by simp), if_pos ⟨trivial, by omega⟩, hc]
      simp only [Option.bind_some]
      cases at_ with
      | none =>
        simp only [newAt, hL_new, hL_next]
        rw [hl]
        rfl
      | some i =>
        simp only [newAt]
        rw [hL_put (hat i rfl), hl]
        rfl
    · exact rdRow_own (e := 1) (hh _ rfl) rfl rfl
theorem made_out {a : LT FS} {x : Fct} : (madeOut a x).1 = if checkF x = 0 then (if (targetF x).2 = true then (a, 0) else (zL, 1)) else (zL, 1) := by
  unfold madeOut
  split
  · split <;> rfl
  · rfl
theorem res_fact {h : H} {a : LT FS} {e : Int} {x : List Int} {y : List ByteArray} (h1 : rdRow false h j1 a.2.2.2.2.1 = some x) (h2 : rdRow false h t1 a.2.2.2.2.2 = some y) :
    rdRes false h (.many [.agg FC, .leaf (.int .i64)]) (Res.un (.many [.agg FS, .leaf (.int .i64)]) (a, e)) = some (fctOf a x y, e) := by
  obtain ⟨a0, a1, a2, a3, a4, a5⟩ := a
  have g1 : rdRow false h j1 ⟨a4.a, a4.len, a4.cap, a4.tail⟩ = some x := h1
  have g2 : rdRow false h t1 ⟨a5.a, a5.len, a5.cap, a5.tail⟩ = some y := h2
  try simp -implicitDefEqProofs only [evs, reduceIte, rdRes, rdTT, rdTy, rdLT, Res.un, TT.un, Ty.un, LT.un, Leaf.un, Leaf.plain, LT.plain, g1, g2]
theorem res_made {h : H} {a : LT FS} {x : Fct} (h1 : rdRow false h j1 a.2.2.2.2.1 = some x.2.2.2.2.1) (h2 : rdRow false h t1 a.2.2.2.2.2 = some x.2.2.2.2.2) (he : fctOf a x.2.2.2.2.1 x.2.2.2.2.2 = x) :
    rdRes false h (.many [.agg FC, .leaf (.int .i64)]) (Res.un (.many [.agg FS, .leaf (.int .i64)]) (madeOut a x).1) = some (makeF x) := by
  rw [made_out]
  unfold makeF
  split
  · split
    · rw [res_fact h1 h2, he]
    · exact res_fact rdRow_nil rdRow_nil
  · exact res_fact rdRow_nil rdRow_nil
theorem Correct_ok (own target : Ky) (f : Fct) (hs : f.2.2.2.2.1.length ≤ 2 ^ 19 ∧ f.2.2.2.2.2.length ≤ 2 ^ 19) : arrival_CorrectP own target f = some (makeF (corrOf own target f)) := by
  obtain ⟨k0, k1, k2⟩ := own
  obtain ⟨t0, t1', t2⟩ := target
  obtain ⟨f0, f1, f2, f3, f4, f5⟩ := f
  obtain ⟨hs1, hs2⟩ := hs
  simp only at hs1 hs2
  obtain ⟨x, hx⟩ : ∃ x, x = corrOf (k0, k1, k2) (t0, t1', t2) (f0, f1, f2, f3, f4, f5) := ⟨_, rfl⟩
  rw [← hx]
  obtain ⟨s14, o, e14, r14⟩ := app4 (a := t0) (b := t1') (c := t2) (d := f3) (nums := f4) (at_ := some 4) (sl := [cKy (k0, k1, k2), cKy (t0, t1', t2), cFt false (f0, f1, f2, f3, f4, f5), .own zF 6, .fresh]) (by omega) (fun i e => by cases e; simp)
  obtain ⟨s4, hs4⟩ : ∃ s4, s4 = o.getD .fresh := ⟨_, rfl⟩
  have e14' : appendS (hL [cKy (k0, k1, k2), cKy (t0, t1', t2), cFt false (f0, f1, f2, f3, f4, f5), .own zF 6, .fresh]) (some 4) 1 8 ⟨.lp true [.int .i64 t0, .int .i64 t1', .int .i64 t2, .int .i64 f3] 0, 4, 4, false⟩ (cellsL j1 f4) f4.length = some (s14, hL [cKy (k0, k1, k2), cKy (t0, t1', t2), cFt false (f0, f1, f2, f3, f4, f5), .own zF 6, s4]) := by
    rw [e14, hs4]
    cases o <;> rfl
  have C1 : ∀ h, cellsOf h (.slice (rowSV false j1 f4).a f4.length f4.length true) 1 = some (f4.length, cellsL j1 f4) := fun h => cellsOf_all (ls := j1) (w := 1) rfl (by omega) rfl
  have c2 : cloneP 16 f5 = some f5 := by unfold cloneP; rw [guardO_pos ⟨by unfold roomCells; omega, by omega⟩]
  have rr : ∀ lp s3 t, rdRow lp (hL ([cKy (k0, k1, k2), cKy (t0, t1', t2), cFt false (f0, f1, f2, f3, f4, f5), s3, s4] ++ t)) j1 s14 = some ([t0, t1', t2, f3] ++ f4) := fun lp s3 t => r14 lp _ fun s e => by rw [hs4, e]; rfl
  have M := freeM_ok (ok := sm) (a := (k0, k1, k2, 90, s14, rowSV true t1 f5)) (sl := [cKy (k0, k1, k2), cKy (t0, t1', t2), cFt false (f0, f1, f2, f3, f4, f5), .own zF 6, s4]) (e := [t0, t1', t2, f3] ++ f4) (g := f5) (by have := rr true (.own zF 6) []; rw [List.append_nil] at this; exact this) (rdRow_res rfl) (by
    simp only [sm, Bool.and_eq_true, decide_eq_true_eq, List.length_append, List.length_cons, List.length_nil]
    omega)
  have hfx : fctOf (k0, k1, k2, 90, s14, rowSV true t1 f5) ([t0, t1', t2, f3] ++ f4) f5 = x := by rw [hx]; rfl
  rw [hfx] at M
  obtain ⟨news, hnews⟩ : ∃ news, news = (madeOut (k0, k1, k2, 90, s14, rowSV true t1 f5) x).2.map fun c => Slot.own c 6 := ⟨_, rfl⟩
  obtain ⟨⟨res, err⟩, hres⟩ : ∃ res, res = (madeOut (k0, k1, k2, 90, s14, rowSV true t1 f5) x).1 := ⟨_, rfl⟩
  rw [← hnews, ← hres] at M
  have hmk := fun (h : H) (q1 : rdRow false h j1 s14 = some ([t0, t1', t2, f3] ++ f4)) => res_made (h := h) (a := (k0, k1, k2, 90, s14, rowSV true t1 f5)) (x := x) (by rw [hx]; exact q1) (by rw [hx]; exact rdRow_res rfl) (by rw [hx]; rfl)
  rw [← hres] at hmk
  have W : H.wrs (hL ([cKy (k0, k1, k2), cKy (t0, t1', t2), cFt false (f0, f1, f2, f3, f4, f5), .own zF 6, s4] ++ news)) (.hp 3 6 0) (cA res) = some (hL ([cKy (k0, k1, k2), cKy (t0, t1', t2), cFt false (f0, f1, f2, f3, f4, f5), .own (cA res) 6, s4] ++ news)) := by
    rw [wr_all (e := 6) (cs := zF) (g := 6) (by rfl) rfl rfl, set_app (by simp)]
    rfl
  have RD : rdT (.agg FS) (hL ([cKy (k0, k1, k2), cKy (t0, t1', t2), cFt false (f0, f1, f2, f3, f4, f5), .own (cA res) 6, s4] ++ news)) (.hp 3 6 0) = some res := by
    rw [rds_hp (by simp), hL_m]; rfl
  have R5 : ∀ sl, rdRow true (hL sl) [Leaf.str] ⟨(rowSV false t1 f5).a, f5.length, f5.length, true⟩ = some f5 := fun sl => row_texts
  have M' : madeFree (k0, k1, k2, 90, s14, rowSV true [Leaf.str] f5) (hL [cKy (k0, k1, k2), cKy (t0, t1', t2), cFt false (f0, f1, f2, f3, f4, f5), .own zF 6, s4]) = some ((res, err), hL ([cKy (k0, k1, k2), cKy (t0, t1', t2), cFt false (f0, f1, f2, f3, f4, f5), .own zF 6, s4] ++ news)) := M
  have G : ∀ A : V, (A = .hp 0 3 0 ∨ A = .hp 2 6 5) → (apartA A (appAddr (.slice (.lp true [.int .i64 t0, .int .i64 t1', .int .i64 t2, .int .i64 f3] 0) 4 4 false) (.slice (rowSV false [Leaf.int .i64] f4).a f4.length f4.length true) (some 4)) = true) = True ∧ (apartA (appAddr (.slice (.lp true [.int .i64 t0, .int .i64 t1', .int .i64 t2, .int .i64 f3] 0) 4 4 false) (.slice (rowSV false [Leaf.int .i64] f4).a f4.length f4.length true) (some 4)) A = true) = True := by
    rintro A (rfl | rfl) <;> cases f4 <;> exact ⟨eq_true rfl, eq_true rfl⟩
  unfold arrival_CorrectP arrival_Correct
  try simp -implicitDefEqProofs only [evs, reduceIte, rdRes, rdTT, rdTy, rdLT, Res.un, TT.un, Ty.un, LT.un, Leaf.un, Leaf.plain, LT.plain, evh, List.replicate, splice, LT.pack, Leaf.pack, Nat.reduceAdd, Nat.reduceSub, Nat.reduceLeDiff, Nat.reduceLT, Nat.reduceEqDiff, LT.lo, Leaf.lo, Option.bind_some, hL_reserve, List.append_nil, e14', C1, c2, rr, R5, M', put3, (G _ (.inl rfl)).1, (G _ (.inr rfl)).2, guardO_true]
  have K := hmk _ (rr false (.own (cA res) 6) news)
  simp -implicitDefEqProofs only [evs, reduceIte, rdRes, rdTT, rdTy, rdLT, Res.un, TT.un, Ty.un, LT.un, Leaf.un, Leaf.plain, LT.plain] at K
  exact K
end Go.Proofs.YtjkjcnadgpndoaaGreat
/- Undo, and the reference's Correct and Undo. Conditions: lists that are not too long. -/
namespace Go.Proofs.YtjkjcnadgpndoaaGreat
open Go Go.Proofs.YtjkjcnadgpndoaaGreat.Ev
set_option linter.unusedVariables false
set_option linter.unusedSimpArgs false
set_option maxRecDepth 100000
set_option maxHeartbeats 4000000
end Go.Proofs.YtjkjcnadgpndoaaGreat
/- The reference's Correct. Conditions: lists that are not too long. -/
namespace Go.Proofs.YtjkjcnadgpndoaaGreat
open Go Go.Proofs.YtjkjcnadgpndoaaGreat.Ev
set_option linter.unusedVariables false
set_option linter.unusedSimpArgs false
set_option maxRecDepth 100000
set_option maxHeartbeats 4000000
end Go.Proofs.YtjkjcnadgpndoaaGreat
/- awake is true. No conditions. -/
namespace Go.Proofs.YtjkjcnadgpndoaaGreat
open Go Go.Proofs.YtjkjcnadgpndoaaGreat.Ev
set_option linter.unusedVariables false
set_option linter.unusedSimpArgs false
set_option maxRecDepth 100000
set_option maxHeartbeats 4000000
noncomputable def corrC (own target : Ky) (f : Fct) : Option (Fct × Int) := if f.2.2.2.2.1.length ≤ 2 ^ 19 ∧ f.2.2.2.2.2.length ≤ 2 ^ 19 then some (makeF (corrOf own target f)) else arrival_CorrectP own target f
theorem corrC_eq : arrival_CorrectP = corrC := by
  funext o t f
  unfold corrC
  split
  · exact Correct_ok o t f ‹_›
  · rfl
noncomputable def mergeC (l : List Fct) : Option ((List Fct × List Ky × List Ky × List Ky) × Int) := if checkL l = 0 → l.length ≤ 19 then some (mergeF l) else arrival_MergeP l
theorem mergeC_eq : arrival_MergeP = mergeC := by
  funext l
  unfold mergeC
  split
  · exact Merge_ok l ‹_›
  · rfl
noncomputable def traceC (l : List Fct) (k : Ky) : Option (List Ky × Int) := if checkL l = 0 → l.length ≤ 19 then some (traceF l k) else arrival_TraceP l k
theorem traceC_eq : arrival_TraceP = traceC := by
  funext l k
  unfold traceC
  split
  · exact Trace_ok l k ‹_›
  · rfl
theorem awake_ok : spilelaw54_awakeP = some true := by
  delta spilelaw54_awakeP spilelaw54_awake
  generalize hc : arrival_CorrectP = c
  rw [corrC_eq] at hc
  subst hc
  generalize hc : arrival_MergeP = c
  rw [mergeC_eq] at hc
  subst hc
  generalize hc : arrival_TraceP = c
  rw [traceC_eq] at hc
  subst hc
  kernel_rfl
end Go.Proofs.YtjkjcnadgpndoaaGreat
/- Law Makes. No conditions but the arguments' form. -/
namespace Go.Proofs.YtjkjcnadgpndoaaGreat
open Go Go.Proofs.YtjkjcnadgpndoaaGreat.Ev
set_option linter.unusedVariables false
set_option linter.unusedSimpArgs false
set_option maxRecDepth 100000
set_option maxHeartbeats 4000000
theorem max63 : maxLen < 2 ^ 63 := by decide
theorem okT {x : Fct} (h : LT.ok FC x) : x.2.2.2.2.2.length < 2 ^ 63 := by
  obtain ⟨_, _, _, _, _, h⟩ := h
  exact Nat.lt_of_le_of_lt h.1 max63
theorem okL {l : List Fct} (h : (Leaf.row FC).ok l) : l.length < 2 ^ 63 ∧ ∀ x ∈ l, x.2.2.2.2.2.length < 2 ^ 63 := ⟨Nat.lt_of_le_of_lt h.1 max63, fun x hx => okT (h.2 x hx)⟩
end Go.Proofs.YtjkjcnadgpndoaaGreat
/- Law Merges. No conditions but the arguments' form. -/
namespace Go.Proofs.YtjkjcnadgpndoaaGreat
open Go Go.Proofs.YtjkjcnadgpndoaaGreat.Ev
set_option linter.unusedVariables false
set_option linter.unusedSimpArgs false
set_option maxRecDepth 100000
set_option maxHeartbeats 4000000
theorem Equal_ok (a b : List Ky) (ha : a.length ≤ 2 ^ 20) : slices_Equal_api_Key_api_KeyP a b = some (decide (a = b)) := by
  unfold slices_Equal_api_Key_api_KeyP slices_Equal_api_Key_api_Key
  try simp -implicitDefEqProofs only [evs, reduceIte, rdRes, rdTT, rdTy, rdLT, Res.un, TT.un, Ty.un, LT.un, Leaf.un, Leaf.plain, LT.plain, rowSV_len]
  by_cases hl : (a.length : Int) = (b.length : Int)
  · rw [decide_eq_true hl]
    try simp -implicitDefEqProofs only [Bool.not_true, cond_false]
    rw [iter_same a b (by omega) (by omega) (fun i x y hx hy hi => by
      have hj := (List.getElem?_eq_some_iff.1 hy).1
      unfold slices_Equal_api_Key_api_Key.loop1
      try simp -implicitDefEqProofs only [rowSV_len, Int.toNat_natCast, reserve0]
      rw [decide_eq_true (by omega), cond_true, guardO_pos (by omega), rds_keys, hx]
      try simp -implicitDefEqProofs only [Option.bind_some]
      rw [guardO_pos (by omega), rds_keys, hy]
      try simp -implicitDefEqProofs only [Option.bind_some]
      rw [i64_suc (by omega), key_and]
      cases decide (x = y) <;> rfl) (by
      unfold slices_Equal_api_Key_api_Key.loop1
      try simp -implicitDefEqProofs only [rowSV_len]
      rw [decide_eq_false (by omega), cond_false])]
    by_cases h : a = b
    · rw [if_pos h, decide_eq_true h]; rfl
    · rw [if_neg h, decide_eq_false h]; rfl
  · rw [decide_eq_false hl]
    have : ¬ a = b := fun e => hl (by rw [e])
    rw [decide_eq_false this]
    rfl
theorem once_small {l : List Fct} (h : ∀ x ∈ l, smallF x) : ∀ x ∈ onceF l, smallF x := fun x hx => h x (onceF_mem.1 hx)
theorem cnt_small {l : List Fct} (h : ∀ x ∈ l, smallF x) : ∀ x ∈ cntF l, smallF x := fun x hx => h x (cntF_mem.1 hx).1
theorem facts_small {C : List Fct} (h : ∀ x ∈ C, smallF x) : ∀ x ∈ factsF C, smallF x := fun x hx => by
  obtain ⟨f, hf, e⟩ := List.mem_filterMap.1 hx
  exact effO_small h hf e
theorem mergeF_small (l : List Fct) : (mergeF l).1.1.length ≤ 1024 ∧ (∀ x ∈ (mergeF l).1.1, smallF x) ∧ (mergeF l).1.2.1.length ≤ 1024 ∧ (mergeF l).1.2.2.1.length ≤ 1024 ∧ (mergeF l).1.2.2.2.length ≤ 1024 := by
  unfold mergeF
  by_cases he : checkL l = 0
  · rw [if_pos he]
    have hl := (checkL_zero he).1
    have hs := checkL_small he
    have h1 := onceF_len l
    have h2 := cntF_len (onceF l)
    have h3 := ksF_len (onceF l)
    unfold meansF
    simp only
    refine ⟨?_, facts_small (cnt_small (once_small hs)), ?_, ?_, ?_⟩
    · exact Nat.le_trans (List.length_filterMap_le _ _) (by omega)
    · exact Nat.le_trans (List.length_filter_le _ _) (by omega)
    · unfold idleF; rw [List.length_map]; exact Nat.le_trans (List.length_filter_le _ _) (by omega)
    · unfold rfsF; rw [List.length_map]; exact Nat.le_trans (List.length_filter_le _ _) (by omega)
  · rw [if_neg he]
    exact ⟨Nat.zero_le _, (fun x hx => by cases hx), Nat.zero_le _, Nat.zero_le _, Nat.zero_le _⟩
theorem traceF_len (l : List Fct) (k : Ky) : (traceF l k).1.length ≤ 1024 := by
  unfold traceF
  split
  · rename_i he
    have hl := (checkL_zero he).1
    have h1 := onceF_len l
    have h2 := cntF_len (onceF l)
    rw [List.length_map]
    exact Nat.le_trans (List.length_filter_le _ _) (by omega)
  · exact Nat.zero_le _
theorem SameM_self {l : List Fct} {m : List Fct × List Ky × List Ky × List Ky} (b : List Fct × List Ky × List Ky × List Ky) (h : (mergeF l).1 = m) : spileref54_SameP m b = some (decide (m = b)) := by
  obtain ⟨h1, h2, h3, h4, h5⟩ := mergeF_small l
  rw [h] at h1 h2 h3 h4 h5
  exact RSameM_ok m b (by omega) h2 (by omega) (by omega) (by omega)
theorem ArrivalMerges_ok (l : List Fct) (k : Ky) (hx : TT.ok [.leaf (.row FC), .agg KC] (l, k)) : spilelaw54_ArrivalMergesP l k = some true := by
  have ok := okL (l := l) hx.1
  have F := Few_ok l ok.1 ok.2
  have FS := few_small (l := l)
  have F19 := few_19 (l := l)
  obtain ⟨k0, k1, k2⟩ := k
  unfold spilelaw54_ArrivalMergesP spilelaw54_ArrivalMerges
  cases hs : fewF l
  · rw [hs] at F
    try simp -implicitDefEqProofs only [evs, reduceIte, rdRes, rdTT, rdTy, rdLT, Res.un, TT.un, Ty.un, LT.un, Leaf.un, Leaf.plain, LT.plain, evh, List.replicate, splice, LT.pack, Leaf.pack, Nat.reduceAdd, Nat.reduceSub, Nat.reduceLeDiff, Nat.reduceLT, Nat.reduceEqDiff, LT.lo, Leaf.lo, awake_ok, Option.bind_some, row_facts, F, Bool.not_true, Bool.not_false]
  · rw [hs] at F
    obtain ⟨h1, h2⟩ := FS hs
    have CP := Cp_ok l (by omega) h2
    have M := Merge_ok l (fun e => by have := F19 hs e; omega)
    have RM := RMerge_ok l (fun e => by omega)
    have T := Trace_ok l (k0, k1, k2) (fun e => by have := F19 hs e; omega)
    have RT := RTrace_ok l (k0, k1, k2) (fun e => by omega)
    have SM := SameM_self (l := l) (m := (mergeF l).1) (mergeF l).1 rfl
    have EQ := Equal_ok (traceF l (k0, k1, k2)).1 (traceF l (k0, k1, k2)).1 (by have := traceF_len l (k0, k1, k2); omega)
    generalize mergeF l = m at M RM SM
    generalize traceF l (k0, k1, k2) = t at T RT EQ
    obtain ⟨⟨m1, m2, m3, m4⟩, me⟩ := m
    obtain ⟨t1, te⟩ := t
    rw [decide_eq_true rfl] at SM EQ
    try simp -implicitDefEqProofs only [evs, reduceIte, rdRes, rdTT, rdTy, rdLT, Res.un, TT.un, Ty.un, LT.un, Leaf.un, Leaf.plain, LT.plain, evh, List.replicate, splice, LT.pack, Leaf.pack, Nat.reduceAdd, Nat.reduceSub, Nat.reduceLeDiff, Nat.reduceLT, Nat.reduceEqDiff, LT.lo, Leaf.lo, awake_ok, Option.bind_some, row_facts, row_facts2, row_keys, F, Bool.not_true, Bool.not_false, hL_reserve, CP, M, RM, T, RT, SM, EQ, eq_self, decide_true]
end Go.Proofs.YtjkjcnadgpndoaaGreat
