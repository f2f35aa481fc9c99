/- What the functions of this seat compute: some texts in one. Conditions: those of each law. -/
import Derived.Test.YtedhmdocimkldaaDoorRows
import Derived.Test.YtedhmdocimkldaaDoorEvRow
import Derived.LaidMore
import Derived.OpenShut
import Derived.MakeChecks
import Derived.Stop.Joined
import Derived.Test.YtedhmdocimkldaaDoorFn6
/- What the listed variables hold when a call begins. Conditions: none. -/
namespace Go.Proofs.YtedhmdocimkldaaDoor
open Go Go.Proofs.YtedhmdocimkldaaDoor.Ev Go.ChangeShapes Go.WideShapes Go.ChangeAt Go.RowKit
set_option maxRecDepth 100000
set_option linter.unusedVariables false
abbrev laid4 : List (String × DataW Unit) := [("math/bits.deBruijn32tab", Rows.laid_math_bits_deBruijn32tab), ("math/bits.deBruijn64tab", Rows.laid_math_bits_deBruijn64tab), ("internal/strconv.uint64pow10", Rows.laid_internal_strconv_uint64pow10), ("spile/statement.keys", Rows.laid_spile_statement_keys)]
theorem at1 {α : Type} {cs : List α} {i : Nat} {a : α} (h : (cs.drop (i * 1)).take 1 = [a]) : cs[i]? = some a := by
  have := congrArg (fun l : List α => l[0]?) h
  simpa [List.getElem?_take, List.getElem?_drop] using this
theorem cells_arr {P : Program} {w : World} {base : Nat} {sp : Nat → Bool} {held : Bool} {fuel : Nat} {t n e : Nat} (ht : P.underlying t = some (.array n e)) (hc : P.cellsOf e = 1) (hct : P.cellsOf t = n) {cs : List Value} {α : Type} (L : List α) (d : α → DataW Unit) (v : α → Value)
    (hv : ∀ m c x a, DataW.trod (fun _ => ()) P w base sp held m e c = some x → x.1 = d a → c = [v a]) {p : List MemPlace} (h : DataW.trod (fun _ => ()) P w base sp held fuel t cs = some (.agg (L.map d), p)) : cs = L.map v := by
  obtain ⟨xs, m, rfl, hx, hlen, hxs, hel⟩ := DataW.trod_array ht h
  have hL : L.map d = xs.map (·.1) := by
    have := congrArg Prod.fst hx
    simpa using this
  have hn : L.length = n := by rw [← hxs]; simpa using congrArg List.length hL
  refine List.ext_getElem? fun i => ?_
  by_cases hi : i < n
  · have h1 := hel i hi
    rw [List.getElem?_eq_getElem (by omega : i < xs.length)] at h1
    have h2 : (L[i]?).map d = (xs[i]?).map (·.1) := by rw [← List.getElem?_map, hL, List.getElem?_map]
    rw [List.getElem?_eq_getElem (by omega : i < xs.length), List.getElem?_eq_getElem (by omega : i < L.length)] at h2
    simp only [Option.map_some, Option.some.injEq] at h2
    have h3 := hv _ _ _ (L[i]'(by omega)) h1 h2.symm
    rw [hc] at h3
    rw [at1 h3, List.getElem?_map, List.getElem?_eq_getElem (by omega : i < L.length)]
    rfl
  · rw [List.getElem?_eq_none (by omega), List.getElem?_eq_none (by rw [List.length_map]; omega)]
theorem cells_int {P : Program} {w : World} {base : Nat} {sp : Nat → Bool} {held : Bool} {fuel : Nat} {t n e : Nat} {k : IntKind} (ht : P.underlying t = some (.array n e)) (he : P.underlying e = some (.int k)) (hc : P.cellsOf e = 1) (hct : P.cellsOf t = n) {cs : List Value} (L : List Int) {p : List MemPlace} (h : DataW.trod (fun _ => ()) P w base sp held fuel t cs = some (.agg (L.map fun i => .lit (.int k i)), p)) : cs = L.map fun i => .int k i :=
  cells_arr ht hc hct L _ _ (fun m c x a h1 h2 => by
    obtain ⟨i, rfl, rfl, _⟩ := DataW.trod_int he h1
    simp only [DataW.lit.injEq, Lit.int.injEq, true_and] at h2
    rw [h2]) h
theorem cells_str {P : Program} {w : World} {base : Nat} {sp : Nat → Bool} {held : Bool} {fuel : Nat} {t n e : Nat} (ht : P.underlying t = some (.array n e)) (he : P.underlying e = some .string) (hc : P.cellsOf e = 1) (hct : P.cellsOf t = n) {cs : List Value} (L : List (List UInt8)) {p : List MemPlace} (h : DataW.trod (fun _ => ()) P w base sp held fuel t cs = some (.agg (L.map fun b => .lit (.string b)), p)) : cs = L.map fun b => .string ⟨b.toArray⟩ :=
  cells_arr ht hc hct L _ _ (fun m c x a h1 h2 => by
    obtain ⟨s, rfl, rfl, _⟩ := DataW.trod_string he h1
    simp only [DataW.lit.injEq, Lit.string.injEq] at h2
    rw [← h2]) h
theorem heap_var {P : Program} {w : World} {n : String} {g : Nat} {cs : Array Value} (hg : P.globalNamed n = some g) (h : w.var? P n = some cs) : g < w.heap.size ∧ ∃ t fr, w.heap[g]? = some (.cells cs t fr) := by
  simp only [World.var?, hg, Option.bind_some] at h
  split at h
  · rename_i cs' t fr he
    cases h
    exact ⟨(Array.getElem?_eq_some_iff.1 he).1, _, _, he⟩
  · cases h
theorem gKeys : Tryd.prog.globalNamed "spile/statement.keys" = some 0 := by kernel_rfl
theorem gPow : Tryd.prog.globalNamed "internal/strconv.uint64pow10" = some 1 := by kernel_rfl
theorem tKeys : (Tryd.prog.globals[0]?).map (·.type) = some 97 := by kernel_rfl
theorem tPow : (Tryd.prog.globals[1]?).map (·.type) = some 139 := by kernel_rfl
theorem laid_plain {W : World} (h : laidMetH Tryd.prog laid4 W) : laidMet Tryd.prog laid4 W := by
  rwa [MakeChecks.laidMetH_plain _ _ _ (by kernel_rfl)] at h
abbrev powsL : List Int := [1, 10, 100, 1000, 10000, 100000, 1000000, 10000000, 100000000, 1000000000, 10000000000, 100000000000, 1000000000000, 10000000000000, 100000000000000, 1000000000000000, 10000000000000000, 100000000000000000, 1000000000000000000, 10000000000000000000]
abbrev keysL : List (List UInt8) := [[105, 116, 101, 109], [99, 108, 97, 115, 115], [100, 97, 121], [97, 108, 99, 111, 104, 111, 108], [98, 121], [114, 101, 108, 105, 101, 118, 101, 100], [114, 97, 116, 101], [100, 117, 116, 121]]
theorem gl_of_laid {W : World} (h : laidMetH Tryd.prog laid4 W) : GL W.heap.size W := by
  obtain ⟨ps, ⟨g0, t0, cs0, f0, p0, q0, hg0, ht0, hv0, hd0, ⟨g1, t1, cs1, f1, p1, q1, hg1, ht1, hv1, hd1, ⟨g2, t2, cs2, f2, p2, q2, hg2, ht2, hv2, hd2, ⟨g3, t3, cs3, f3, p3, q3, hg3, ht3, hv3, hd3, _, _⟩, _⟩, _⟩, _⟩, _, _⟩ := laid_plain h
  clear hg0 ht0 hv0 hd0 hg1 ht1 hv1 hd1
  obtain rfl := Option.some.inj (gPow.symm.trans hg2)
  obtain rfl := Option.some.inj (gKeys.symm.trans hg3)
  obtain rfl := Option.some.inj (tPow.symm.trans ht2)
  obtain rfl := Option.some.inj (tKeys.symm.trans ht3)
  have e2 := cells_int (P := Tryd.prog) (t := 139) (n := 20) (e := 110) (k := .u64) (by kernel_rfl) (by kernel_rfl) (by kernel_rfl) (by kernel_rfl) powsL hd2
  have e3 := cells_str (P := Tryd.prog) (t := 97) (n := 8) (e := 9) (by kernel_rfl) (by kernel_rfl) (by kernel_rfl) (by kernel_rfl) keysL hd3
  have h2 := heap_var hg2 hv2
  have h3 := heap_var hg3 hv3
  obtain ⟨l2⟩ := cs2
  obtain ⟨l3⟩ := cs3
  simp only at e2 e3
  subst e2
  subst e3
  intro p hp
  rcases List.mem_cons.1 hp with rfl | hp
  · exact h3
  · rcases List.mem_cons.1 hp with rfl | hp
    · exact h2
    · cases hp
/-- The door's own heap meets the condition. -/
theorem door_met (os : Os) (args : Array Value) : laidMetH Tryd.prog laid4 ((World.doorLaid Tryd.prog 29 os).forCall (fun _ _ => 0) ⟨#[], args, []⟩).memory :=
  laidMetH_of_parts3 (fuel := 8) (laidMet_of_run' 8 (by kernel_rfl) (by kernel_rfl)) (by kernel_rfl) (by kernel_rfl)
end Go.Proofs.YtedhmdocimkldaaDoor
/- What period.Check computes (its reference's text is the same). Conditions: those of each law. -/
namespace Go.Proofs.YtedhmdocimkldaaDoor
open Go Go.Proofs.YtedhmdocimkldaaDoor.Ev
set_option linter.unusedVariables false
set_option linter.unusedSimpArgs false
set_option maxRecDepth 100000
set_option maxHeartbeats 4000000
abbrev Per := Int × Int × Int × Bool
abbrev PE : List Leaf := [.int .i64, .int .i64, .int .i64, .bool]
abbrev cP (p : Per) : Slot := .own [.int .i64 p.1, .int .i64 p.2.1, .int .i64 p.2.2.1, .bool p.2.2.2] 4
theorem new_cP {sl : List Slot} {p : Per} : H.wrs (hL (sl ++ [.own [.int .i64 0, .int .i64 0, .int .i64 0, .bool false] 4])) (.hp sl.length 4 0) [.int .i64 p.1, .int .i64 p.2.1, .int .i64 p.2.2.1, .bool p.2.2.2] = some (hL (sl ++ [cP p])) := by
  rw [wrs_own (g := 4) (cs := [.int .i64 0, .int .i64 0, .int .i64 0, .bool false]) (e := 4) (by simp) rfl (by simp)]
  simp [splice]
theorem rd_cP {sl : List Slot} {id : Nat} {p : Per} (h : sl[id]? = some (cP p)) :
    rdT (.leaf (.int .i64)) (hL sl) (.hp id 4 0) = some p.1 ∧ rdT (.leaf (.int .i64)) (hL sl) (.hp id 4 1) = some p.2.1 ∧ rdT (.leaf (.int .i64)) (hL sl) (.hp id 4 2) = some p.2.2.1 ∧ rdT (.leaf .bool) (hL sl) (.hp id 4 3) = some p.2.2.2 := by
  refine ⟨?_, ?_, ?_, ?_⟩ <;> (rw [rd_own (g := 4) h rfl]; rfl)
def pq (xs : List Per) (i : Nat) : Per := (xs[i]?).getD (0, 0, 0, false)
theorem pq_eq {xs : List Per} {i : Nat} (h : i < xs.length) : xs[i]? = some (pq xs i) := by unfold pq; rw [List.getElem?_eq_getElem h]; rfl
theorem rds_pq {f : Bool} {h : H} {xs : List Per} {i : Nat} (hi : i < xs.length) : rdT (.agg PE) h ((rowSV f PE xs).a.add (i * 4)) = some (pq xs i) := by
  rw [rds_rowF (ls := PE) (w := 4) rfl (by omega) rfl]; exact pq_eq hi
theorem rd_pq {f : Bool} {h : H} {xs : List Per} {i : Nat} (hi : i < xs.length) :
    rdT (.leaf (.int .i64)) h ((rowSV f PE xs).a.add (i * 4 + 0)) = some (pq xs i).1 ∧ rdT (.leaf (.int .i64)) h ((rowSV f PE xs).a.add (i * 4 + 1)) = some (pq xs i).2.1 ∧ rdT (.leaf .bool) h ((rowSV f PE xs).a.add (i * 4 + 3)) = some (pq xs i).2.2.2 := by
  refine ⟨?_, ?_, ?_⟩ <;> (rw [rd_row (ls := PE) (w := 4) rfl (by omega), pq_eq hi]; rfl)
theorem add_pq {f : Bool} {xs : List Per} {n m : Nat} : V.add ((rowSV f PE xs).a.add n) m = (rowSV f PE xs).a.add (n + m) := by
  simp only [rowSV, V.add]; rw [Nat.add_assoc]
theorem nn_pq {f : Bool} {xs : List Per} {n : Nat} (h : xs.length ≠ 0) : ((rowSV f PE xs).a.add n).nn = true := nn_row h (by decide)
theorem per_code {a b c : Int} {h : H} : (bif !decide (a < 0) then (bif !decide (b < a) then (bif !decide (c < b) then some (decide ((100000 : Int) < c), h) else some (true, h)) else some (true, h)) else some (true, h) : Option (Bool × H)) = some (decide (a < 0 ∨ b < a ∨ c < b ∨ 100000 < c), h) := by
  by_cases h1 : a < 0
  · rw [decide_eq_true h1, decide_eq_true (p := _ ∨ _) (.inl h1)]; rfl
  · rw [decide_eq_false h1]
    by_cases h2 : b < a
    · rw [decide_eq_true h2, decide_eq_true (p := _ ∨ _) (.inr (.inl h2))]; rfl
    · rw [decide_eq_false h2]
      by_cases h3 : c < b
      · rw [decide_eq_true h3, decide_eq_true (p := _ ∨ _) (.inr (.inr (.inl h3)))]; rfl
      · rw [decide_eq_false h3]
        by_cases h4 : (100000 : Int) < c
        · rw [decide_eq_true h4, decide_eq_true (p := _ ∨ _) (.inr (.inr (.inr h4)))]; rfl
        · rw [decide_eq_false h4, decide_eq_false (p := _ ∨ _) (by omega)]; rfl
/-- The first thing that is wrong with the period i. -/
def pfault (xs : List Per) (i : Nat) : Int :=
  let p := pq xs i
  if p.1 < 0 ∨ p.2.1 < p.1 ∨ p.2.2.1 < p.2.1 ∨ 100000 < p.2.2.1 then 2
  else if 0 < i ∧ p.1 ≠ IntKind.i64.wrap ((pq xs (i - 1)).2.1 + 1) then 5
  else if 0 < i ∧ p.2.2.2 = true ∧ (pq xs (i - 1)).2.2.2 = false then 11 else 0
def cPs (xs : List Per) (i : Nat) : H := hL ((xs.take i).map cP)
theorem cPs_succ {xs : List Per} {i : Nat} (h : i < xs.length) : hL ((xs.take i).map cP ++ [cP (pq xs i)]) = cPs xs (i + 1) := by
  unfold cPs
  rw [List.take_add_one, pq_eq h]
  simp
def pfirst (xs : List Per) : Option Nat := (List.range xs.length).find? fun i => !decide (pfault xs i = 0)
def pcheckOf (xs : List Per) : Int × Int :=
  if 64 < xs.length then (-1, 8) else
    match pfirst xs with
    | some i => ((i : Int), pfault xs i)
    | none => (-1, 0)
theorem pcheck_step {xs : List Per} (hl : xs.length ≤ 64) {i : Nat} (hi : i < xs.length) :
    period_Check.loop1 (rowSV false PE xs) ((i : Int), cPs xs i) = some (if pfault xs i = 0 then .more (((i + 1 : Nat) : Int), cPs xs (i + 1)) else .done (.ret ((i : Int), pfault xs i), cPs xs (i + 1))) := by
  have hlen : ((xs.take i).map cP).length = i := by simp; omega
  have hr := rd_cP (sl := (xs.take i).map cP ++ [cP (pq xs i)]) (id := ((xs.take i).map cP).length) (p := pq xs i) (by simp)
  have hg : 0 ≤ (i : Int) ∧ (i : Int) < (xs.length : Int) := by omega
  have hi1 : IntKind.i64.wrap ((i : Int) + 1) = ((i + 1 : Nat) : Int) := i64_succ (by omega)
  rw [show cPs xs i = hL ((xs.take i).map cP) from rfl, ← cPs_succ hi]
  unfold period_Check.loop1
  try simp -implicitDefEqProofs only [rowSV_len]
  rw [decide_eq_true (show (i : Int) < (xs.length : Int) by omega), cond_true, guardO_pos hg]
  try simp -implicitDefEqProofs only [Int.toNat_natCast]
  rw [rds_pq hi]
  try simp -implicitDefEqProofs only [Option.bind_some, hL_new, hL_next]
  rw [new_cP]
  try simp -implicitDefEqProofs only [Option.bind_some, hL_reserve, List.replicate, List.append_nil]
  rw [hr.1, hr.2.1, hr.2.2.1]
  try simp -implicitDefEqProofs only [Option.bind_some]
  rw [per_code]
  try simp -implicitDefEqProofs only [Option.bind_some, hL_reserve, List.replicate, List.append_nil]
  rw [hr.1]
  try simp -implicitDefEqProofs only [Option.bind_some]
  unfold pfault
  by_cases c1 : (pq xs i).1 < 0 ∨ (pq xs i).2.1 < (pq xs i).1 ∨ (pq xs i).2.2.1 < (pq xs i).2.1 ∨ 100000 < (pq xs i).2.2.1
  · rw [decide_eq_true c1]
    try simp -implicitDefEqProofs only [if_pos c1, cond_true]
    rfl
  · rw [decide_eq_false c1]
    try simp -implicitDefEqProofs only [if_neg c1, cond_false]
    cases i with
    | zero =>
      try simp -implicitDefEqProofs only [Int.natCast_zero, Int.lt_irrefl, decide_false, cond_false, Option.bind_some, Nat.lt_irrefl, false_and, if_false]
      rw [← hi1]
      rfl
    | succ k =>
      have hk : k < xs.length := by omega
      have hw : IntKind.i64.wrap (((k + 1 : Nat) : Int) - 1) = (k : Int) := by rw [show ((k + 1 : Nat) : Int) - 1 = (k : Int) by omega, i64_nat (by omega)]
      have hgk : 0 ≤ (k : Int) ∧ (k : Int) < (xs.length : Int) := by omega
      have hrk := fun (h : H) => rd_pq (f := false) (h := h) hk
      rw [decide_eq_true (show (0 : Int) < ((k + 1 : Nat) : Int) by omega), hw]
      try simp -implicitDefEqProofs only [cond_true, Int.toNat_natCast]
      rw [guardO_pos hgk, guardO_pos (nn_pq (by omega)), add_pq, (hrk _).2.1]
      try simp -implicitDefEqProofs only [Option.bind_some, Nat.add_sub_cancel]
      by_cases c2 : (pq xs (k + 1)).1 = IntKind.i64.wrap ((pq xs k).2.1 + 1)
      · rw [decide_eq_true c2, if_neg (show ¬ (0 < k + 1 ∧ (pq xs (k + 1)).1 ≠ IntKind.i64.wrap ((pq xs k).2.1 + 1)) from fun h => h.2 c2)]
        try simp -implicitDefEqProofs only [Bool.not_true, cond_false]
        rw [hr.2.2.2]
        try simp -implicitDefEqProofs only [Option.bind_some]
        cases c3 : (pq xs (k + 1)).2.2.2 with
        | false =>
          try simp -implicitDefEqProofs only [cond_false, Option.bind_some, Bool.false_eq_true, false_and, and_false, if_false]
          rw [hi1]
          rfl
        | true =>
          try simp -implicitDefEqProofs only [cond_true]
          rw [guardO_pos hgk, guardO_pos (nn_pq (by omega)), add_pq, (hrk _).2.2]
          try simp -implicitDefEqProofs only [Option.bind_some]
          cases c4 : (pq xs k).2.2.2 with
          | false =>
            try simp -implicitDefEqProofs only [Bool.not_false, cond_true]
            rw [if_pos (show 0 < k + 1 ∧ True ∧ True from ⟨by omega, trivial, trivial⟩)]
            rfl
          | true =>
            try simp -implicitDefEqProofs only [Bool.not_true, cond_false, Bool.true_eq_false, and_false, if_false]
            rw [hi1]
            rfl
      · rw [decide_eq_false c2, if_pos (show 0 < k + 1 ∧ (pq xs (k + 1)).1 ≠ IntKind.i64.wrap ((pq xs k).2.1 + 1) from ⟨by omega, c2⟩)]
        try simp -implicitDefEqProofs only [Bool.not_false, cond_true]
        rfl
theorem pfirst_findSome {xs : List Per} {F : Type} (k : Nat → F) : ∀ (l : List Nat), (l.findSome? fun i => if pfault xs i = 0 then none else some (k i)) = (l.find? fun i => !decide (pfault xs i = 0)).map k
  | [] => rfl
  | a :: l => by
    rw [List.findSome?_cons, List.find?_cons]
    by_cases h : pfault xs a = 0
    · rw [if_pos h, decide_eq_true h]
      exact pfirst_findSome k l
    · rw [if_neg h, decide_eq_false h]
      rfl
theorem pcheck_loop {xs : List Per} (hl : xs.length ≤ 64) : ∃ h', iter FUEL (period_Check.loop1 (rowSV false PE xs)) (0, H.empty) = some (match pfirst xs with | some i => .ret ((i : Int), pfault xs i) | none => .ex0 (), h') := by
  have hs := iter_scan (f := period_Check.loop1 (rowSV false PE xs)) (y := (.ex0 (), cPs xs xs.length))
    (fun i => if pfault xs i = 0 then none else some (.ret ((i : Int), pfault xs i), cPs xs (i + 1))) xs.length (fun i => ((i : Int), cPs xs i)) FUEL (fun i hi => ?_) ?_ (fuel_gt (by omega))
  · have hz : (((0 : Nat) : Int), cPs xs 0) = (0, H.empty) := by rw [hL_empty]; rfl
    rw [hz, pfirst_findSome] at hs
    rw [hs]
    unfold pfirst
    cases (List.range xs.length).find? fun i => !decide (pfault xs i = 0) with
    | none => exact ⟨_, rfl⟩
    | some i => exact ⟨_, rfl⟩
  · rw [pcheck_step hl hi]
    by_cases h : pfault xs i = 0
    · rw [if_pos h, if_pos h]
    · rw [if_neg h, if_neg h]
  · unfold period_Check.loop1
    try simp -implicitDefEqProofs only [rowSV_len]
    rw [decide_eq_false (by omega), cond_false]
theorem PCheck_ok (xs : List Per) : period_CheckP xs = some (pcheckOf xs) := by
  unfold period_CheckP period_Check pcheckOf
  try simp -implicitDefEqProofs only [evs, reduceIte, rdRes, rdTT, rdTy, rdLT, Res.un, TT.un, Ty.un, LT.un, Leaf.un, Leaf.plain, LT.plain]
  by_cases h1 : 64 < xs.length
  · rw [if_pos h1, decide_eq_true (show (64 : Int) < (xs.length : Int) by omega)]
    try simp -implicitDefEqProofs only [evs, reduceIte, rdRes, rdTT, rdTy, rdLT, Res.un, TT.un, Ty.un, LT.un, Leaf.un, Leaf.plain, LT.plain]
  · rw [if_neg h1, decide_eq_false (show ¬ (64 : Int) < (xs.length : Int) by omega)]
    try simp -implicitDefEqProofs only [evs, reduceIte, rdRes, rdTT, rdTy, rdLT, Res.un, TT.un, Ty.un, LT.un, Leaf.un, Leaf.plain, LT.plain]
    obtain ⟨h', hh⟩ := pcheck_loop (xs := xs) (by omega)
    rw [hh]
    cases pfirst xs with
    | some i => simp -implicitDefEqProofs only [evs, reduceIte, rdRes, rdTT, rdTy, rdLT, Res.un, TT.un, Ty.un, LT.un, Leaf.un, Leaf.plain, LT.plain]
    | none => simp -implicitDefEqProofs only [evs, reduceIte, rdRes, rdTT, rdTy, rdLT, Res.un, TT.un, Ty.un, LT.un, Leaf.un, Leaf.plain, LT.plain]
theorem RCheck_ok (xs : List Per) : spileref50_CheckP xs = some (pcheckOf xs) := (show spileref50_CheckP xs = period_CheckP xs from rfl).trans (PCheck_ok xs)
theorem right_ok (xs : List Per) : period_rightP xs = some (decide ((pcheckOf xs).2 = 0)) := by
  unfold period_rightP period_right
  try simp -implicitDefEqProofs only [evs, reduceIte, rdRes, rdTT, rdTy, rdLT, Res.un, TT.un, Ty.un, LT.un, Leaf.un, Leaf.plain, LT.plain, rdRow_args]
  rw [PCheck_ok]
  try simp -implicitDefEqProofs only [evs, reduceIte, rdRes, rdTT, rdTy, rdLT, Res.un, TT.un, Ty.un, LT.un, Leaf.un, Leaf.plain, LT.plain]
end Go.Proofs.YtedhmdocimkldaaDoor
/- What Of and Charged compute, and their references. Conditions: those of each law. -/
namespace Go.Proofs.YtedhmdocimkldaaDoor
open Go Go.Proofs.YtedhmdocimkldaaDoor.Ev
set_option linter.unusedVariables false
set_option linter.unusedSimpArgs false
set_option maxRecDepth 100000
set_option maxHeartbeats 4000000
def idxP (p : Per → Bool) (xs : List Per) : Int := match xs.findIdx? p with | some i => (i : Int) | none => -1
theorem IndexFunc_quiet {T : Table} {v : V} {h : H} {xs : List Per} {f : Bool} (p : Per → Bool) (hn : xs.length < 2 ^ 63) (hc : ∀ x ∈ xs, ∀ {R : Type} (k : V → H → Option R), callV T.dy v [.agg [.int .i64 x.1, .int .i64 x.2.1, .int .i64 x.2.2.1, .bool x.2.2.2]] h k = k (.bool (p x)) h) :
    slices_IndexFunc_api_Period_api_Period T (rowSV f PE xs) v h = some (idxP p xs, h) := by
  unfold slices_IndexFunc_api_Period_api_Period
  rw [iter_find xs p (fun i => (i : Int)) hn (fun i x hx => by
    obtain ⟨hlt, rfl⟩ := List.getElem?_eq_some_iff.1 hx
    unfold slices_IndexFunc_api_Period_api_Period.loop1
    simp only [rowSV_len, Int.toNat_natCast]
    rw [decide_eq_true (by omega), cond_true, guardO_pos (by omega), rds_rowF (ls := PE) (w := 4) rfl (by omega) rfl, hx]
    simp only [Option.bind_some]
    rw [hc _ (List.getElem_mem hlt)]
    simp only [Res.pack, Ty.pack, Leaf.pack, Option.bind_some]
    rw [i64_succ (by omega)]
    cases p xs[i] <;> rfl) (by
    unfold slices_IndexFunc_api_Period_api_Period.loop1
    simp only [rowSV_len]
    rw [decide_eq_false (by omega), cond_false])]
  unfold idxP
  cases xs.findIdx? p <;> rfl
theorem IndexFunc_grow {T : Table} {v : V} {B : List Slot} {xs : List Per} {f : Bool} (p : Per → Bool) (hn : xs.length < 2 ^ 63)
    (hc : ∀ x ∈ xs, ∀ (J : List Slot) {R : Type} (k : V → H → Option R), callV T.dy v [.agg [.int .i64 x.1, .int .i64 x.2.1, .int .i64 x.2.2.1, .bool x.2.2.2]] (hL (B ++ J)) k = k (.bool (p x)) (hL (B ++ (J ++ [cP x])))) :
    ∃ J, slices_IndexFunc_api_Period_api_Period T (rowSV f PE xs) v (hL B) = some (idxP p xs, hL (B ++ J)) := by
  have hstep : ∀ (i : Nat) (x : Per), xs[i]? = some x → slices_IndexFunc_api_Period_api_Period.loop1 T (rowSV f PE xs) v ((i : Int), hL (B ++ (xs.take i).map cP)) = some (bif p x then .done (.ret (i : Int), hL (B ++ (xs.take (i + 1)).map cP)) else .more (((i + 1 : Nat) : Int), hL (B ++ (xs.take (i + 1)).map cP))) := fun i x hx => by
    obtain ⟨hlt, hx'⟩ := List.getElem?_eq_some_iff.1 hx
    have ht : (xs.take (i + 1)).map cP = (xs.take i).map cP ++ [cP x] := by
      rw [← List.take_append_getElem hlt, List.map_append, hx']
      rfl
    unfold slices_IndexFunc_api_Period_api_Period.loop1
    try simp -implicitDefEqProofs only [rowSV_len, Int.toNat_natCast]
    rw [decide_eq_true (by omega), cond_true, guardO_pos (by omega), rds_rowF (ls := PE) (w := 4) rfl (by omega) rfl, hx]
    try simp -implicitDefEqProofs only [Option.bind_some]
    rw [hc x (by rw [← hx']; exact List.getElem_mem hlt), ← ht]
    try simp -implicitDefEqProofs only [Res.pack, Ty.pack, Leaf.pack, Option.bind_some]
    rw [i64_succ (by omega)]
    cases p x <;> rfl
  unfold slices_IndexFunc_api_Period_api_Period idxP
  cases hf : xs.findIdx? p with
  | some m =>
    obtain ⟨hm, hbad, hgood⟩ := List.findIdx?_eq_some_iff_getElem.1 hf
    have := iter_run (f := slices_IndexFunc_api_Period_api_Period.loop1 T (rowSV f PE xs) v) (x := (.ret (m : Int), hL (B ++ (xs.take (m + 1)).map cP))) (fun i => ((i : Int), hL (B ++ (xs.take i).map cP))) m FUEL (fun i hi => by
      rw [hstep i _ (List.getElem?_eq_getElem (by omega))]
      have := hgood i hi
      cases hpi : p xs[i] with
      | true => exact absurd hpi this
      | false => rfl) (by
      rw [hstep m _ (List.getElem?_eq_getElem hm), hbad]
      rfl) (fuel_gt (by omega))
    have hz : (((0 : Nat) : Int)) = 0 := rfl
    simp only [hz, List.take_zero, List.map_nil, List.append_nil] at this
    rw [this]
    exact ⟨_, rfl⟩
  | none =>
    have hno := List.findIdx?_eq_none_iff.1 hf
    have := iter_run (f := slices_IndexFunc_api_Period_api_Period.loop1 T (rowSV f PE xs) v) (x := (.ex0 (), hL (B ++ xs.map cP))) (fun i => ((i : Int), hL (B ++ (xs.take i).map cP))) xs.length FUEL (fun i hi => by
      rw [hstep i _ (List.getElem?_eq_getElem hi), hno _ (List.getElem_mem hi)]
      rfl) (by
      unfold slices_IndexFunc_api_Period_api_Period.loop1
      try simp -implicitDefEqProofs only [rowSV_len]
      rw [decide_eq_false (by omega), cond_false, List.take_length]) (fuel_gt (by omega))
    have hz : (((0 : Nat) : Int)) = 0 := rfl
    simp only [hz, List.take_zero, List.map_nil, List.append_nil] at this
    rw [this]
    exact ⟨_, rfl⟩
theorem within_ok (n a b : Int) : period_withinP n a b = some (decide (a ≤ n ∧ n ≤ b)) := by
  unfold period_withinP period_within
  by_cases h : a ≤ n
  · rw [decide_eq_true h]
    by_cases h2 : n ≤ b
    · rw [decide_eq_true h2, decide_eq_true (p := _ ∧ _) ⟨h, h2⟩]; rfl
    · rw [decide_eq_false h2, decide_eq_false (p := _ ∧ _) (by omega)]; rfl
  · rw [decide_eq_false h, decide_eq_false (p := _ ∧ _) (by omega)]; rfl
theorem Between_ok (n a b : Int) : spileref47_BetweenP n a b = some (decide (a ≤ n ∧ n ≤ b)) := (show spileref47_BetweenP n a b = period_withinP n a b from rfl).trans (within_ok n a b)
def isOpen (p : Per) : Bool := !p.2.2.2
theorem open1_ok (p : Per) : period_open_1P p = some (isOpen p) := by
  obtain ⟨a, b, c, d⟩ := p
  unfold period_open_1P period_open_1
  try simp -implicitDefEqProofs only [evs, reduceIte, rdRes, rdTT, rdTy, rdLT, Res.un, TT.un, Ty.un, LT.un, Leaf.un, Leaf.plain, LT.plain, evh, List.replicate, splice, LT.pack, Leaf.pack, Nat.reduceAdd, Nat.reduceSub, Nat.reduceLeDiff, Nat.reduceLT, Nat.reduceEqDiff, LT.lo, Leaf.lo]
  rfl
theorem openX_ok {h : H} {f : Bool} {xs : List Per} (hl : xs.length ≤ 64) : period_open (rowSV f PE xs) h = some (idxP isOpen xs, h) := by
  unfold period_open
  rw [IndexFunc_quiet isOpen (by omega) (fun x hx R k => by
    obtain ⟨a, b, c, d⟩ := x
    show (period_open_1P (a, b, c, d)).bind (fun r => k ((Res.one (.leaf .bool)).lo true r) _) = _
    rw [open1_ok]; rfl)]
  rfl
theorem open_ok {xs : List Per} (hl : xs.length ≤ 64) : period_openP xs = some (idxP isOpen xs) := by
  unfold period_openP
  rw [openX_ok hl]
  rfl
theorem Ropen_ok {h : H} {f : Bool} {xs : List Per} (hl : xs.length ≤ 64) : spileref50_open (rowSV f PE xs) h = some (idxP isOpen xs, h) := by
  unfold spileref50_open
  rw [iter_find xs isOpen (fun i => (i : Int)) (by omega) (fun i x hx => by
    obtain ⟨hlt, hx'⟩ := List.getElem?_eq_some_iff.1 hx
    have hq : pq xs i = x := by unfold pq; rw [hx]; rfl
    unfold spileref50_open.loop1
    try simp -implicitDefEqProofs only [rowSV_len, Int.toNat_natCast]
    rw [decide_eq_true (by omega), cond_true, guardO_pos (by omega), guardO_pos (nn_pq (by omega)), add_pq, (rd_pq hlt).2.2, hq]
    try simp -implicitDefEqProofs only [Option.bind_some]
    rw [i64_succ (by omega)]
    unfold isOpen
    cases x.2.2.2 <;> rfl) (by
    unfold spileref50_open.loop1
    try simp -implicitDefEqProofs only [rowSV_len]
    rw [decide_eq_false (by omega), cond_false])]
  unfold idxP
  cases xs.findIdx? isOpen <;> rfl
theorem RopenP_ok {xs : List Per} (hl : xs.length ≤ 64) : spileref50_openP xs = some (idxP isOpen xs) := by
  unfold spileref50_openP
  rw [Ropen_ok hl]
  rfl
def inPer (d : Int) (p : Per) : Bool := decide (p.1 ≤ d ∧ d ≤ p.2.1)
def pofOf (xs : List Per) (d : Int) : Int × Int :=
  if (pcheckOf xs).2 = 0 then (match xs.findIdx? (inPer d) with | some i => ((i : Int), 0) | none => (-1, 7)) else (-1, 1)
theorem of1_ok (d : Int) (x : Per) (J : List Slot) : period_Of_1 x (.hp 0 1 0) (hL ([.own [.int .i64 d] 1] ++ J)) = some (inPer d x, hL ([.own [.int .i64 d] 1] ++ (J ++ [cP x]))) := by
  obtain ⟨a, b, c, e⟩ := x
  have r0 : ∀ (K : List Slot), rdT (.leaf (.int .i64)) (hL (.own [.int .i64 d] 1 :: K)) (.hp 0 1 0) = some d := fun K => by rw [rd_own (g := 1) (id := 0) rfl rfl]; rfl
  have hr := rd_cP (sl := .own [.int .i64 d] 1 :: (J ++ [cP (a, b, c, e)])) (id := J.length + 1) (p := (a, b, c, e)) (by simp)
  unfold period_Of_1
  try simp -implicitDefEqProofs only [hL_new, hL_next, List.cons_append, List.nil_append, List.length_cons]
  simp only [cP] at hr
  rw [r0, hr.1, hr.2.1]
  try simp -implicitDefEqProofs only [Option.bind_some, within_ok]
  rfl
theorem check_few {xs : List Per} (h : (pcheckOf xs).2 = 0) : xs.length ≤ 64 := by
  unfold pcheckOf at h
  by_cases h1 : 64 < xs.length
  · rw [if_pos h1] at h; simp at h
  · omega
theorem Of_ok (xs : List Per) (d : Int) : period_OfP xs d = some (pofOf xs d) := by
  unfold period_OfP period_Of pofOf
  try simp -implicitDefEqProofs only [hL_empty, hL_new, hL_next, List.nil_append, List.length_nil]
  rw [rdRow_args rfl]
  try simp -implicitDefEqProofs only [Option.bind_some, right_ok]
  by_cases hc : (pcheckOf xs).2 = 0
  · rw [decide_eq_true hc, if_pos hc]
    obtain ⟨J, hJ⟩ := IndexFunc_grow (T := period_Of.tb) (v := .func 41 [.hp 0 1 0]) (B := [.own [.int .i64 d] 1]) (xs := xs) (f := false) (inPer d) (by have := check_few hc; omega) (fun x hx J R k => by
      obtain ⟨a, b, c, e⟩ := x
      show (period_Of_1 (a, b, c, e) (.hp 0 1 0) (hL ([.own [.int .i64 d] 1] ++ J))).bind (fun r => k ((Res.one (.leaf .bool)).un r.1) r.2) = _
      rw [of1_ok]; rfl)
    try simp -implicitDefEqProofs only [Bool.not_true, cond_false]
    rw [hJ]
    unfold idxP
    cases xs.findIdx? (inPer d) with
    | some i =>
      try simp -implicitDefEqProofs only [Option.bind_some]
      rw [decide_eq_false (show ¬ (i : Int) < 0 by omega)]
      rfl
    | none => rfl
  · rw [decide_eq_false hc, if_neg hc]
    rfl
theorem ROf_ok (xs : List Per) (d : Int) : spileref50_OfP xs d = some (pofOf xs d) := by
  unfold spileref50_OfP spileref50_Of pofOf
  rw [rdRow_args rfl]
  try simp -implicitDefEqProofs only [Option.bind_some, RCheck_ok]
  by_cases hc : (pcheckOf xs).2 = 0
  · have hf := check_few hc
    rw [decide_eq_true hc, if_pos hc]
    try simp -implicitDefEqProofs only [Bool.not_true, cond_false]
    rw [iter_find xs (inPer d) (fun i => ((i : Int), 0)) (by omega) (fun i x hx => by
      obtain ⟨hlt, hx'⟩ := List.getElem?_eq_some_iff.1 hx
      have hq : pq xs i = x := by unfold pq; rw [hx]; rfl
      unfold spileref50_Of.loop1
      try simp -implicitDefEqProofs only [rowSV_len, Int.toNat_natCast]
      rw [decide_eq_true (by omega), cond_true, guardO_pos (by omega), guardO_pos (nn_pq (by omega)), add_pq, (rd_pq hlt).1, hq]
      try simp -implicitDefEqProofs only [Option.bind_some]
      rw [guardO_pos (by omega), guardO_pos (nn_pq (by omega)), add_pq, (rd_pq hlt).2.1, hq]
      try simp -implicitDefEqProofs only [Option.bind_some, Between_ok]
      rw [i64_succ (by omega)]
      unfold inPer
      cases decide (x.1 ≤ d ∧ d ≤ x.2.1) <;> rfl) (by
      unfold spileref50_Of.loop1
      try simp -implicitDefEqProofs only [rowSV_len]
      rw [decide_eq_false (by omega), cond_false])]
    cases xs.findIdx? (inPer d) <;> rfl
  · rw [decide_eq_false hc, if_neg hc]
    rfl
end Go.Proofs.YtedhmdocimkldaaDoor
/- What Charged, Few, Equal and Close compute. Conditions: those of each law. -/
namespace Go.Proofs.YtedhmdocimkldaaDoor
open Go Go.Proofs.YtedhmdocimkldaaDoor.Ev
set_option linter.unusedVariables false
set_option linter.unusedSimpArgs false
set_option maxRecDepth 100000
set_option maxHeartbeats 4000000
theorem pc_zero {xs : List Per} (h : (pcheckOf xs).2 = 0) {i : Nat} (hi : i < xs.length) : pfault xs i = 0 := by
  have hf := check_few h
  unfold pcheckOf at h
  rw [if_neg (by omega)] at h
  cases hp : pfirst xs with
  | some k =>
    rw [hp] at h
    have := List.find?_some hp
    simp only [Bool.not_eq_true', decide_eq_false_iff_not] at this
    exact absurd h this
  | none =>
    unfold pfirst at hp
    have := List.find?_eq_none.1 hp i (List.mem_range.2 hi)
    simpa using this
theorem pc_of {xs : List Per} (hl : xs.length ≤ 64) (h : ∀ i, i < xs.length → pfault xs i = 0) : pcheckOf xs = (-1, 0) := by
  unfold pcheckOf
  rw [if_neg (by omega)]
  have : pfirst xs = none := by
    unfold pfirst
    rw [List.find?_eq_none]
    intro i hi
    simpa using h i (List.mem_range.1 hi)
  rw [this]
theorem pc_one {xs : List Per} (h : (pcheckOf xs).2 = 0) : pcheckOf xs = (-1, 0) := pc_of (check_few h) fun i hi => pc_zero h hi
structure Right1 (xs : List Per) (i : Nat) : Prop where
  lo : 0 ≤ (pq xs i).1
  mid : (pq xs i).1 ≤ (pq xs i).2.1
  due : (pq xs i).2.1 ≤ (pq xs i).2.2.1
  hi : (pq xs i).2.2.1 ≤ 100000
  next : 0 < i → (pq xs i).1 = IntKind.i64.wrap ((pq xs (i - 1)).2.1 + 1)
  closed : 0 < i → (pq xs i).2.2.2 = true → (pq xs (i - 1)).2.2.2 = true
theorem pfault_zero {xs : List Per} {i : Nat} : pfault xs i = 0 ↔ Right1 xs i := by
  unfold pfault
  constructor
  · intro h
    by_cases c1 : (pq xs i).1 < 0 ∨ (pq xs i).2.1 < (pq xs i).1 ∨ (pq xs i).2.2.1 < (pq xs i).2.1 ∨ 100000 < (pq xs i).2.2.1
    · simp only [if_pos c1] at h; omega
    simp only [if_neg c1] at h
    by_cases c2 : 0 < i ∧ (pq xs i).1 ≠ IntKind.i64.wrap ((pq xs (i - 1)).2.1 + 1)
    · simp only [if_pos c2] at h; omega
    simp only [if_neg c2] at h
    by_cases c3 : 0 < i ∧ (pq xs i).2.2.2 = true ∧ (pq xs (i - 1)).2.2.2 = false
    · simp only [if_pos c3] at h; omega
    refine ⟨by omega, by omega, by omega, by omega, fun hi => ?_, fun hi hc => ?_⟩
    · exact Decidable.byContradiction fun hn => c2 ⟨hi, hn⟩
    · cases hx : (pq xs (i - 1)).2.2.2 with
      | true => rfl
      | false => exact absurd ⟨hi, hc, hx⟩ c3
  · intro ⟨h1, h2, h3, h4, h5, h6⟩
    simp only []
    rw [if_neg (by omega), if_neg (fun h => h.2 (h5 h.1)), if_neg (fun h => by have := h6 h.1 h.2.1; rw [h.2.2] at this; cases this)]
theorem right1 {xs : List Per} (h : (pcheckOf xs).2 = 0) {i : Nat} (hi : i < xs.length) : Right1 xs i := pfault_zero.1 (pc_zero h hi)
theorem right_next {xs : List Per} (h : (pcheckOf xs).2 = 0) {i : Nat} (hi : i + 1 < xs.length) : (pq xs (i + 1)).1 = (pq xs i).2.1 + 1 := by
  have a := right1 h (i := i) (by omega)
  have b := (right1 h hi).next (by omega)
  rw [Nat.add_sub_cancel, i64_in _ (by have := a.lo; have := a.mid; have := a.due; have := a.hi; omega)] at b
  exact b
theorem open_up {xs : List Per} (h : (pcheckOf xs).2 = 0) {k : Nat} : ∀ {i : Nat}, k ≤ i → i < xs.length → (pq xs k).2.2.2 = false → (pq xs i).2.2.2 = false
  | i, hk, hi, ho => by
    by_cases he : k = i
    · subst he; exact ho
    · have := open_up h (i := i - 1) (by omega) (by omega) ho
      cases hc : (pq xs i).2.2.2 with
      | false => rfl
      | true =>
        have := (right1 h hi).closed (by omega) hc
        simp_all
  termination_by i => i
theorem open_some {xs : List Per} {k : Nat} (h : xs.findIdx? isOpen = some k) : k < xs.length ∧ (pq xs k).2.2.2 = false ∧ ∀ j, j < k → (pq xs j).2.2.2 = true := by
  obtain ⟨hm, hbad, hgood⟩ := List.findIdx?_eq_some_iff_getElem.1 h
  refine ⟨hm, ?_, fun j hj => ?_⟩
  · have : pq xs k = xs[k] := by unfold pq; rw [List.getElem?_eq_getElem hm]; rfl
    rw [this]; unfold isOpen at hbad; simpa using hbad
  · have : pq xs j = xs[j]'(by omega) := by unfold pq; rw [List.getElem?_eq_getElem (by omega)]; rfl
    rw [this]
    have := hgood j hj
    unfold isOpen at this; simpa using this
theorem open_none {xs : List Per} (h : xs.findIdx? isOpen = none) {j : Nat} (hj : j < xs.length) : (pq xs j).2.2.2 = true := by
  have := List.findIdx?_eq_none_iff.1 h (pq xs j) (by
    have : pq xs j = xs[j] := by unfold pq; rw [List.getElem?_eq_getElem hj]; rfl
    rw [this]; exact List.getElem_mem hj)
  unfold isOpen at this; simpa using this
def chargedOf (xs : List Per) (d : Int) : Int × Int :=
  if (pofOf xs d).2 = 0 then (if idxP isOpen xs < 0 then (-1, 11) else (max (pofOf xs d).1 (idxP isOpen xs), 0)) else (-1, (pofOf xs d).2)
theorem pof_ok {xs : List Per} {d : Int} (h : (pofOf xs d).2 = 0) : (pcheckOf xs).2 = 0 ∧ ∃ i : Nat, i < xs.length ∧ pofOf xs d = ((i : Int), 0) ∧ (pq xs i).1 ≤ d ∧ d ≤ (pq xs i).2.1 := by
  unfold pofOf at h ⊢
  by_cases hc : (pcheckOf xs).2 = 0
  · rw [if_pos hc] at h ⊢
    cases hf : xs.findIdx? (inPer d) with
    | none => rw [hf] at h; simp at h
    | some i =>
      obtain ⟨hm, hbad, -⟩ := List.findIdx?_eq_some_iff_getElem.1 hf
      have hq : pq xs i = xs[i] := by unfold pq; rw [List.getElem?_eq_getElem hm]; rfl
      unfold inPer at hbad
      have hb := of_decide_eq_true hbad
      rw [← hq] at hb
      exact ⟨hc, i, hm, rfl, hb⟩
  · rw [if_neg hc] at h; simp at h
theorem Charged_ok (xs : List Per) (d : Int) : period_ChargedP xs d = some (chargedOf xs d) := by
  unfold period_ChargedP period_Charged chargedOf
  rw [rdRow_args rfl]
  try simp -implicitDefEqProofs only [Option.bind_some, Of_ok]
  by_cases h : (pofOf xs d).2 = 0
  · rw [decide_eq_true h, if_pos h]
    try simp -implicitDefEqProofs only [Bool.not_true, cond_false]
    rw [open_ok (check_few (pof_ok h).1)]
    try simp -implicitDefEqProofs only [Option.bind_some, maxI_eq]
    by_cases h2 : idxP isOpen xs < 0
    · rw [decide_eq_true h2, if_pos h2]; rfl
    · rw [decide_eq_false h2, if_neg h2]; rfl
  · rw [decide_eq_false h, if_neg h]
    rfl
theorem RCharged_ok (xs : List Per) (d : Int) : spileref50_ChargedP xs d = some (chargedOf xs d) := by
  unfold spileref50_ChargedP spileref50_Charged chargedOf
  rw [rdRow_args rfl]
  try simp -implicitDefEqProofs only [Option.bind_some, ROf_ok]
  by_cases h : (pofOf xs d).2 = 0
  · rw [decide_eq_true h, if_pos h]
    obtain ⟨hc, i, hi, he, -, -⟩ := pof_ok h
    rw [he]
    try simp -implicitDefEqProofs only [Bool.not_true, cond_false, rowSV_len, Int.toNat_natCast]
    rw [guardO_pos (by omega), guardO_pos (nn_pq (by omega)), add_pq, (rd_pq hi).2.2]
    try simp -implicitDefEqProofs only [Option.bind_some]
    cases ho : xs.findIdx? isOpen with
    | none =>
      have hx : idxP isOpen xs = -1 := by unfold idxP; rw [ho]
      rw [open_none ho hi, RopenP_ok (check_few hc), hx]
      rfl
    | some k =>
      obtain ⟨hk, ho1, ho2⟩ := open_some ho
      have hx : idxP isOpen xs = (k : Int) := by unfold idxP; rw [ho]
      rw [hx, if_neg (by omega)]
      by_cases hki : k ≤ i
      · rw [open_up hc hki hi ho1]
        try simp -implicitDefEqProofs only [Bool.not_false, cond_true]
        rw [show max (i : Int) (k : Int) = (i : Int) by omega]
        rfl
      · rw [ho2 i (by omega), RopenP_ok (check_few hc), hx]
        try simp -implicitDefEqProofs only [Bool.not_true, cond_false, Option.bind_some]
        rw [decide_eq_false (by omega), show max (i : Int) (k : Int) = (k : Int) by omega]
        rfl
  · rw [decide_eq_false h, if_neg h]
    rfl
def few (xs : List Per) : Bool := decide (xs.length ≤ 12 ∨ xs.length = 65)
theorem Few_ok (xs : List Per) : spileref50_FewP xs = some (few xs) := by
  unfold spileref50_FewP spileref50_Few few
  try simp -implicitDefEqProofs only [rowSV_len]
  by_cases h : xs.length ≤ 12
  · rw [decide_eq_true (show (xs.length : Int) ≤ 12 by omega), decide_eq_true (p := _ ∨ _) (.inl h)]; rfl
  · rw [decide_eq_false (show ¬ (xs.length : Int) ≤ 12 by omega)]
    by_cases h2 : xs.length = 65
    · rw [decide_eq_true (show (xs.length : Int) = 65 by omega), decide_eq_true (p := _ ∨ _) (.inr h2)]; rfl
    · rw [decide_eq_false (show ¬ (xs.length : Int) = 65 by omega), decide_eq_false (p := _ ∨ _) (by omega)]; rfl
end Go.Proofs.YtedhmdocimkldaaDoor
/- What Equal, Close and Plan compute, and their references. Conditions: those of each law. -/
namespace Go.Proofs.YtedhmdocimkldaaDoor
open Go Go.Proofs.YtedhmdocimkldaaDoor.Ev
set_option linter.unusedVariables false
set_option linter.unusedSimpArgs false
set_option maxRecDepth 100000
set_option maxHeartbeats 4000000
theorem EqualP_ok (a b : List Per) (hl : a.length < 2 ^ 63) : slices_Equal_api_Period_api_PeriodP a b = some (decide (a = b)) := by
  have dec4 : ∀ (x y : Per), (decide (x.1 = y.1) && (decide (x.2.1 = y.2.1) && (decide (x.2.2.1 = y.2.2.1) && (x.2.2.2 == y.2.2.2)))) = decide (x = y) := fun x y => by
    obtain ⟨x0, x1, x2, x3⟩ := x
    obtain ⟨y0, y1, y2, y3⟩ := y
    have : (x3 == y3) = decide (x3 = y3) := by cases x3 <;> cases y3 <;> rfl
    simp [Prod.mk.injEq, Bool.decide_and, this]
  unfold slices_Equal_api_Period_api_PeriodP slices_Equal_api_Period_api_Period
  try simp -implicitDefEqProofs only [evs, reduceIte, rdRes, rdTT, rdTy, rdLT, Res.un, TT.un, Ty.un, LT.un, Leaf.un, Leaf.plain, LT.plain, rowSV_len]
  by_cases h : a.length = b.length
  · rw [decide_eq_true (show (a.length : Int) = (b.length : Int) by omega)]
    try simp -implicitDefEqProofs only [evs, reduceIte, rdRes, rdTT, rdTy, rdLT, Res.un, TT.un, Ty.un, LT.un, Leaf.un, Leaf.plain, LT.plain]
    rw [iter_same a b h hl (fun i x y hx hy hi => by
      unfold slices_Equal_api_Period_api_Period.loop1
      try simp -implicitDefEqProofs only [rowSV_len, Int.toNat_natCast, reserve0]
      rw [decide_eq_true (by omega), cond_true, guardO_pos (by omega), rds_rowF (ls := PE) (w := 4) rfl (by omega) rfl, hx, rds_rowF (ls := PE) (w := 4) rfl (by omega) rfl, hy]
      try simp -implicitDefEqProofs only [Option.bind_some, dec4]
      rw [guardO_pos (by omega), i64_succ (by omega)]
      cases decide (x = y) <;> rfl) (by
      unfold slices_Equal_api_Period_api_Period.loop1
      try simp -implicitDefEqProofs only [rowSV_len]
      rw [decide_eq_false (by omega), cond_false])]
    by_cases e : a = b
    · rw [if_pos e, decide_eq_true e]; rfl
    · rw [if_neg e, decide_eq_false e]; rfl
  · rw [decide_eq_false (show ¬ (a.length : Int) = (b.length : Int) by omega), decide_eq_false (fun e => h (by rw [e]))]
    rfl
theorem EqualA_ok (a b : List (Int × Int)) (hl : a.length < 2 ^ 63) : slices_Equal_api_Adjustment_api_AdjustmentP a b = some (decide (a = b)) := by
  have dec2 : ∀ (x y : Int × Int), (decide (x.1 = y.1) && decide (x.2 = y.2)) = decide (x = y) := fun x y => by
    obtain ⟨x0, x1⟩ := x
    obtain ⟨y0, y1⟩ := y
    simp [Prod.mk.injEq, Bool.decide_and]
  unfold slices_Equal_api_Adjustment_api_AdjustmentP slices_Equal_api_Adjustment_api_Adjustment
  try simp -implicitDefEqProofs only [evs, reduceIte, rdRes, rdTT, rdTy, rdLT, Res.un, TT.un, Ty.un, LT.un, Leaf.un, Leaf.plain, LT.plain, rowSV_len]
  by_cases h : a.length = b.length
  · rw [decide_eq_true (show (a.length : Int) = (b.length : Int) by omega)]
    try simp -implicitDefEqProofs only [evs, reduceIte, rdRes, rdTT, rdTy, rdLT, Res.un, TT.un, Ty.un, LT.un, Leaf.un, Leaf.plain, LT.plain]
    rw [iter_same a b h hl (fun i x y hx hy hi => by
      unfold slices_Equal_api_Adjustment_api_Adjustment.loop1
      try simp -implicitDefEqProofs only [rowSV_len, Int.toNat_natCast, reserve0]
      rw [decide_eq_true (by omega), cond_true, guardO_pos (by omega), rds_rowF (ls := PA) (w := 2) rfl (by omega) rfl, hx, rds_rowF (ls := PA) (w := 2) rfl (by omega) rfl, hy]
      try simp -implicitDefEqProofs only [Option.bind_some, dec2]
      rw [guardO_pos (by omega), i64_succ (by omega)]
      cases decide (x = y) <;> rfl) (by
      unfold slices_Equal_api_Adjustment_api_Adjustment.loop1
      try simp -implicitDefEqProofs only [rowSV_len]
      rw [decide_eq_false (by omega), cond_false])]
    by_cases e : a = b
    · rw [if_pos e, decide_eq_true e]; rfl
    · rw [if_neg e, decide_eq_false e]; rfl
  · rw [decide_eq_false (show ¬ (a.length : Int) = (b.length : Int) by omega), decide_eq_false (fun e => h (by rw [e]))]
    rfl
/-! ### Close -/
def shut (p : Per) : Per := (p.1, p.2.1, p.2.2.1, true)
def shutAt (xs : List Per) (k : Nat) : List Per := xs.set k (shut (pq xs k))
theorem splice_shut : ∀ (xs : List Per) (k : Nat), k < xs.length → splice (cellsL PE xs) (k * 4 + 3) [.bool true] = cellsL PE (shutAt xs k)
  | x :: xs, 0, _ => by
    obtain ⟨a, b, c, d⟩ := x
    rfl
  | x :: xs, k + 1, h => by
    have ih := splice_shut xs k (by simpa using h)
    obtain ⟨a, b, c, d⟩ := x
    have e1 : (k + 1) * 4 + 3 = (k * 4 + 3) + 4 := by omega
    have e2 : cellsL PE ((a, b, c, d) :: xs) = .int .i64 a :: .int .i64 b :: .int .i64 c :: .bool d :: cellsL PE xs := rfl
    have e3 : shutAt ((a, b, c, d) :: xs) (k + 1) = (a, b, c, d) :: shutAt xs k := rfl
    have e4 : cellsL PE ((a, b, c, d) :: shutAt xs k) = .int .i64 a :: .int .i64 b :: .int .i64 c :: .bool d :: cellsL PE (shutAt xs k) := rfl
    rw [e3, e4, ← ih, e2, e1]
    unfold splice
    simp only [List.take_succ_cons, List.cons_append, List.length_cons, List.length_nil, Nat.zero_add]
    rw [show k * 4 + 3 + 4 + 1 = (k * 4 + 3 + 1) + 1 + 1 + 1 + 1 by omega]
    simp only [List.drop_succ_cons]
theorem wr_shut {sl : List Slot} {id k : Nat} {xs : List Per} (hs : sl[id]? = some (.own (cellsL PE xs) 4)) (hk : k < xs.length) : H.wrs (hL sl) (V.add (V.add (ownSV id PE xs.length).a (k * 4)) 3) [.bool true] = some (hL (sl.set id (.own (cellsL PE (shutAt xs k)) 4))) := by
  have hl : (cellsL PE xs).length = xs.length * 4 := flat_length (ls := PE) xs
  show H.wrs (hL sl) (.hp id (xs.length * 4) (0 + k * 4 + 3)) [.bool true] = _
  rw [Nat.zero_add, wrs_own hs hl (by simp only [List.length_cons, List.length_nil]; omega), splice_shut xs k hk]
def closeOf (xs : List Per) : List Per × Int :=
  if (pcheckOf xs).2 = 0 then (match xs.findIdx? isOpen with | some k => (shutAt xs k, 0) | none => ([], 11)) else ([], 1)
theorem shut_len {xs : List Per} {k : Nat} : (shutAt xs k).length = xs.length := List.length_set
theorem cellsOf_row {f t : Bool} {c w : Nat} {h : H} {ls : List Leaf} {xs : List (LT ls)} (hw : ls.length = w) (hpos : 0 < w) (hf : LT.flat ls = true) : cellsOf h (.slice (rowSV f ls xs).a xs.length c t) w = some (xs.length, cellsL ls xs) := by
  subst hw
  unfold cellsOf
  simp only
  by_cases h0 : xs.length = 0
  · have : xs = [] := List.eq_nil_of_length_eq_zero h0
    subst this
    rfl
  · rw [if_neg h0]
    simp only [H.rds, rowSV, H.from, List.drop_zero, Option.bind_some]
    rw [if_pos ⟨by rw [flat_length]; exact Nat.le_refl _, Nat.ne_of_gt (Nat.mul_pos (by omega) hpos)⟩, List.take_of_length_le (by rw [flat_length]; exact Nat.le_refl _)]
    simp only [Option.map_some, Option.some.injEq, Prod.mk.injEq, true_and, cellsL]
    congr 1
    funext x
    exact flat_flag ls x hf
theorem app_empty {sl : List Slot} {w b : Nat} {ls : List Leaf} {xs : List (LT ls)} (hw : ls.length = w) (h0 : xs.length ≠ 0) (hl : xs.length ≤ 2 ^ 36) (hb : b ≤ 2 ^ 11) : appendS (hL sl) none w b ⟨.lp true [] 0, 0, 0, false⟩ (cellsL ls xs) xs.length = some (ownSV sl.length ls xs.length, hL (sl ++ [.own (cellsL ls xs) w])) := by
  subst hw
  simp only [appendS, appendV, newAt]
  rw [if_neg h0, guardO_pos ⟨by unfold roomCells; omega, hb⟩, if_pos ⟨trivial, trivial, trivial⟩, hL_new]
  rfl
theorem shut_row {lp : Bool} {xs : List Per} {k : Nat} (hk : k < xs.length) : rdRow lp (hL [.own (cellsL PE (shutAt xs k)) 4]) PE (ownSV 0 PE xs.length) = some (shutAt xs k) := by
  have := rdRow_own (lp := lp) (ls := PE) (xs := shutAt xs k) (sl := [.own (cellsL PE (shutAt xs k)) 4]) (id := 0) (e := 4) (n := xs.length * 4) (c := (shutAt xs k).length) (t := true) rfl (by rw [shut_len]; rfl) rfl
  rw [shut_len] at this
  exact this
theorem Close_ok (xs : List Per) : period_CloseP xs = some (closeOf xs) := by
  unfold period_CloseP period_Close closeOf
  rw [rdRow_args rfl]
  try simp -implicitDefEqProofs only [Option.bind_some, right_ok]
  by_cases hc : (pcheckOf xs).2 = 0
  · have hf := check_few hc
    rw [decide_eq_true hc, if_pos hc]
    try simp -implicitDefEqProofs only [Bool.not_true, cond_false]
    rw [openX_ok hf, hL_empty]
    try simp -implicitDefEqProofs only [Option.bind_some]
    cases ho : xs.findIdx? isOpen with
    | none =>
      have hx : idxP isOpen xs = -1 := by unfold idxP; rw [ho]
      rw [hx]
      rfl
    | some k =>
      obtain ⟨hk, ho1, ho2⟩ := open_some ho
      have hx : idxP isOpen xs = (k : Int) := by unfold idxP; rw [ho]
      have hcl := cloneX_row (f := false) (ls := PE) (xs := xs) (w := 4) (b := 32) (sl := []) rfl (by omega) rfl (by omega) (by omega)
      rw [if_neg (by omega), if_neg (by omega)] at hcl
      rw [hx, decide_eq_false (by omega), cond_false, hcl]
      try simp -implicitDefEqProofs only [Option.bind_some, Int.toNat_natCast, List.length_nil, List.nil_append]
      rw [guardO_pos (show 0 ≤ (k : Int) ∧ (k : Int) < ((ownSV 0 PE xs.length).len : Int) from ⟨by omega, by show (k : Int) < (xs.length : Int); omega⟩), guardO_pos (show ((ownSV 0 PE xs.length).a.add (k * 4)).nn = true from rfl), wr_shut rfl hk]
      try simp -implicitDefEqProofs only [Option.bind_some, List.set_cons_zero]
      show (rdRow false (hL [.own (cellsL PE (shutAt xs k)) 4]) PE (ownSV 0 PE xs.length)).bind _ = _
      rw [shut_row hk]
      rfl
  · rw [decide_eq_false hc, if_neg hc]
    rfl
theorem RClose_ok (xs : List Per) : spileref50_CloseP xs = some (closeOf xs) := by
  unfold spileref50_CloseP spileref50_Close closeOf
  rw [rdRow_args rfl]
  try simp -implicitDefEqProofs only [Option.bind_some, RCheck_ok]
  by_cases hc : (pcheckOf xs).2 = 0
  · have hf := check_few hc
    rw [decide_eq_true hc, if_pos hc]
    try simp -implicitDefEqProofs only [Bool.not_true, cond_false]
    rw [Ropen_ok hf, hL_empty]
    try simp -implicitDefEqProofs only [Option.bind_some]
    cases ho : xs.findIdx? isOpen with
    | none =>
      have hx : idxP isOpen xs = -1 := by unfold idxP; rw [ho]
      rw [hx]
      rfl
    | some k =>
      obtain ⟨hk, ho1, ho2⟩ := open_some ho
      have hx : idxP isOpen xs = (k : Int) := by unfold idxP; rw [ho]
      have happ := app_empty (sl := []) (w := 4) (b := 32) (ls := PE) (xs := xs) rfl (by omega) (by omega) (by omega)
      rw [hx, decide_eq_false (by omega), cond_false]
      try simp -implicitDefEqProofs only [rowSV_len]
      rw [cellsOf_row (ls := PE) (w := 4) rfl (by omega) rfl]
      try simp -implicitDefEqProofs only [Option.bind_some]
      rw [happ]
      try simp -implicitDefEqProofs only [Option.bind_some, Int.toNat_natCast, List.length_nil, List.nil_append]
      rw [guardO_pos (show 0 ≤ (k : Int) ∧ (k : Int) < ((ownSV 0 PE xs.length).len : Int) from ⟨by omega, by show (k : Int) < (xs.length : Int); omega⟩), guardO_pos (show ((ownSV 0 PE xs.length).a.add (k * 4)).nn = true from rfl), wr_shut rfl hk]
      try simp -implicitDefEqProofs only [Option.bind_some, List.set_cons_zero]
      show (rdRow false (hL [.own (cellsL PE (shutAt xs k)) 4]) PE (ownSV 0 PE xs.length)).bind _ = _
      rw [shut_row hk]
      rfl
  · rw [decide_eq_false hc, if_neg hc]
    rfl
end Go.Proofs.YtedhmdocimkldaaDoor
/- What Plan computes, and its reference. Conditions: those of the law. -/
namespace Go.Proofs.YtedhmdocimkldaaDoor
open Go Go.Proofs.YtedhmdocimkldaaDoor.Ev
set_option linter.unusedVariables false
set_option linter.unusedSimpArgs false
set_option maxRecDepth 100000
set_option maxHeartbeats 4000000
theorem iter_early {S F : Type} {f : S → Option (Stp S F)} (Inv : Nat → S → Prop) (Post : F → Prop) (n : Nat) (hstep : ∀ i s, i < n → Inv i s → (∃ s', f s = some (.more s') ∧ Inv (i + 1) s') ∨ ∃ x, f s = some (.done x) ∧ Post x) (hend : ∀ s, Inv n s → ∃ x, f s = some (.done x) ∧ Post x) :
    ∀ (fuel i : Nat) (s : S), i ≤ n → Inv i s → n - i < fuel → ∃ x, iter fuel f s = some x ∧ Post x
  | 0, _, _, _, _, h => by omega
  | fuel + 1, i, s, hi, hs, h => by
    rcases Nat.lt_or_ge i n with hlt | hge
    · rcases hstep i s hlt hs with ⟨s', h1, h2⟩ | ⟨x, h1, h2⟩
      · obtain ⟨x, k1, k2⟩ := iter_early Inv Post n hstep hend fuel (i + 1) s' (by omega) h2 (by omega)
        exact ⟨x, by simp only [iter, h1, Option.bind_some]; exact k1, k2⟩
      · exact ⟨x, by simp only [iter, h1, Option.bind_some], h2⟩
    · have : i = n := by omega
      subst this
      obtain ⟨x, h1, h2⟩ := hend s hs
      exact ⟨x, by simp only [iter, h1, Option.bind_some], h2⟩
/-- Period i of a plan. -/
def planP (f l d : Int) (i : Nat) : Per := (f + (i : Int) * l, f + (i : Int) * l + l - 1, f + (i : Int) * l + l - 1 + d, false)
def planL (f l d : Int) (n : Nat) : List Per := (List.range n).map (planP f l d)
theorem planL_succ {f l d : Int} {n : Nat} : planL f l d (n + 1) = planL f l d n ++ [planP f l d n] := by unfold planL; rw [List.range_succ, List.map_append]; rfl
theorem planL_len {f l d : Int} {n : Nat} : (planL f l d n).length = n := by simp [planL]
theorem planL_get {f l d : Int} {n i : Nat} (h : i < n) : pq (planL f l d n) i = planP f l d i := by
  unfold pq planL
  rw [List.getElem?_map, List.getElem?_range h]
  rfl
abbrev inPlan (f l m d : Int) : Prop := (0 ≤ f ∧ f ≤ 100000) ∧ (1 ≤ l ∧ l ≤ 100000) ∧ (1 ≤ m ∧ m ≤ 64) ∧ 0 ≤ d ∧ d ≤ 100000
def planOf (f l m d : Int) : List Per × Int :=
  if inPlan f l m d then (if f + (m - 1) * l + l - 1 + d ≤ 100000 then (planL f l d m.toNat, 0) else ([], 15)) else ([], 2)
theorem mul_step {l : Int} {i : Nat} : ((i + 1 : Nat) : Int) * l = (i : Int) * l + l := by
  rw [Int.natCast_add, Int.add_mul]; simp
theorem mul_low {l : Int} {i : Nat} (hl : 0 ≤ l) : 0 ≤ (i : Int) * l := Int.mul_nonneg (by omega) hl
theorem mul_top {l : Int} {i k : Nat} (hl : 0 ≤ l) (h : i ≤ k) : (i : Int) * l ≤ (k : Int) * l := Int.mul_le_mul_of_nonneg_right (by omega) hl
theorem mul_64 {l : Int} {i : Nat} (h0 : 0 ≤ l) (hl : l ≤ 100000) (h : i ≤ 64) : (i : Int) * l ≤ 6400000 := by
  have := mul_top (i := i) (k := 64) h0 h
  omega
theorem plan_big {f l d : Int} {i m : Nat} (hl : 0 ≤ l) (hi : i < m) (h : 100000 < f + (i : Int) * l + l - 1 + d) : ¬ f + ((m : Int) - 1) * l + l - 1 + d ≤ 100000 := by
  have h1 := mul_top (l := l) (i := i) (k := m - 1) hl (by omega)
  have h2 : ((m : Int) - 1) * l = ((m - 1 : Nat) : Int) * l := by congr 1; omega
  rw [h2]
  omega
abbrev PlanPost (f l d : Int) (m : Nat) (x : Flow SV (SV × Int) × H) : Prop :=
  ∃ sl, (x = (.ret (⟨.nil, 0, 0, false⟩, 15), hL sl) ∧ ¬ f + ((m : Int) - 1) * l + l - 1 + d ≤ 100000) ∨ (∃ s o, x = (.ex0 s, hL sl) ∧ Acc sl PE (planL f l d m) s o ∧ (∀ i : Nat, i < m → f + (i : Int) * l + l - 1 + d ≤ 100000))
theorem plan_end {f l d : Int} {m : Nat} (hm : 1 ≤ m) (h : ∀ i : Nat, i < m → f + (i : Int) * l + l - 1 + d ≤ 100000) : f + ((m : Int) - 1) * l + l - 1 + d ≤ 100000 := by
  have := h (m - 1) (by omega)
  have h2 : ((m : Int) - 1) * l = ((m - 1 : Nat) : Int) * l := by congr 1; omega
  rw [h2]; exact this
theorem plan_loop {f l d : Int} {m : Nat} (hf : 0 ≤ f ∧ f ≤ 100000) (hl : 1 ≤ l ∧ l ≤ 100000) (hm : m ≤ 64) (hd : 0 ≤ d ∧ d ≤ 100000) :
    ∃ x, iter FUEL (period_Plan.loop1 l (m : Int) d) ((⟨.nil, 0, 0, false⟩, f, 0), hL []) = some x ∧ PlanPost f l d m x := by
  refine iter_early (f := period_Plan.loop1 l (m : Int) d) (fun i st => ∃ s sl o, st = ((s, f + (i : Int) * l, (i : Int)), hL sl) ∧ Acc sl PE (planL f l d i) s o ∧ ∀ j : Nat, j < i → f + (j : Int) * l + l - 1 + d ≤ 100000)
    (PlanPost f l d m) m (fun i st hi hst => ?_) (fun st hst => ?_) FUEL 0 _ (Nat.zero_le _) ⟨_, [], none, ?_, Acc.nil, fun j hj => absurd hj (Nat.not_lt_zero j)⟩ (fuel_gt (by omega))
  · obtain ⟨s, sl, o, rfl, hacc, hs⟩ := hst
    have h1 := mul_low (i := i) (l := l) (by omega)
    have h2 := mul_64 (i := i) (l := l) (by omega) hl.2 (by omega)
    have hst := mul_step (i := i) (l := l)
    unfold period_Plan.loop1
    try simp -implicitDefEqProofs only []
    rw [decide_eq_true (show (i : Int) < (m : Int) by omega), cond_true, i64_in (f + (i : Int) * l + l) (by omega), i64_in (f + (i : Int) * l + l - 1) (by omega), i64_in (f + (i : Int) * l + l - 1 + d) (by omega)]
    by_cases hb : 100000 < f + (i : Int) * l + l - 1 + d
    · right
      rw [decide_eq_true hb, cond_true]
      exact ⟨_, rfl, sl, .inl ⟨rfl, plan_big (by omega) hi hb⟩⟩
    · left
      obtain ⟨s', sl', id, k1, k2, -⟩ := hacc.append (w := 4) (b := 32) (x := planP f l d i) (vs := [.int .i64 (f + (i : Int) * l), .int .i64 (f + (i : Int) * l + l - 1), .int .i64 (f + (i : Int) * l + l - 1 + d), .bool false]) rfl (by omega) (by rw [planL_len]; omega) (by omega) rfl
      rw [decide_eq_false hb, cond_false, k1]
      try simp -implicitDefEqProofs only [Option.bind_some]
      rw [i64_in (f + (i : Int) * l + l - 1 + 1) (by omega), i64_succ (by omega), show f + (i : Int) * l + l - 1 + 1 = f + ((i + 1 : Nat) : Int) * l by omega]
      refine ⟨_, rfl, s', sl', some id, rfl, by rw [planL_succ]; exact k2, fun j hj => ?_⟩
      rcases Nat.lt_or_ge j i with h | h
      · exact hs j h
      · have : j = i := by omega
        subst this; omega
  · obtain ⟨s, sl, o, rfl, hacc, hs⟩ := hst
    refine ⟨(.ex0 s, hL sl), ?_, sl, .inr ⟨s, o, rfl, hacc, hs⟩⟩
    unfold period_Plan.loop1
    try simp -implicitDefEqProofs only []
    rw [decide_eq_false (by omega), cond_false]
  · simp
theorem in_code {h : H} {f l m d : Int} {B : Int → Int → Int → Option Bool} (hB : ∀ n a b, B n a b = some (decide (a ≤ n ∧ n ≤ b))) : ((B f 0 100000).bind fun r1 => (bif !(!r1) then ((B l 1 100000).bind fun r2 => (bif !(!r2) then ((B m 1 64).bind fun r3 => (bif !(!r3) then ((B d 0 100000).bind fun r4 => (some ((!r4), h))) else (some (true, h)))) else (some (true, h)))) else (some (true, h)))) = some (!decide (inPlan f l m d), h) := by
  rw [hB, hB, hB, hB]
  simp only [Option.bind_some, Bool.not_not]
  by_cases h1 : 0 ≤ f ∧ f ≤ 100000
  · rw [decide_eq_true h1, cond_true]
    by_cases h2 : 1 ≤ l ∧ l ≤ 100000
    · rw [decide_eq_true h2, cond_true]
      by_cases h3 : 1 ≤ m ∧ m ≤ 64
      · rw [decide_eq_true h3, cond_true]
        by_cases h4 : 0 ≤ d ∧ d ≤ 100000
        · rw [decide_eq_true h4, decide_eq_true (show inPlan f l m d from ⟨h1, h2, h3, h4⟩)]
        · rw [decide_eq_false h4, decide_eq_false (fun h : inPlan f l m d => h4 h.2.2.2)]
      · rw [decide_eq_false h3, decide_eq_false (fun h : inPlan f l m d => h3 h.2.2.1)]; rfl
    · rw [decide_eq_false h2, decide_eq_false (fun h : inPlan f l m d => h2 h.2.1)]; rfl
  · rw [decide_eq_false h1, decide_eq_false (fun h : inPlan f l m d => h1 h.1)]; rfl
theorem Plan_ok (f l m d : Int) : period_PlanP f l m d = some (planOf f l m d) := by
  unfold period_PlanP period_Plan planOf
  rw [in_code within_ok]
  try simp -implicitDefEqProofs only [Option.bind_some]
  by_cases hin : inPlan f l m d
  · obtain ⟨x, hx, sl, hp⟩ := plan_loop (f := f) (l := l) (d := d) (m := m.toNat) hin.1 hin.2.1 (by omega) hin.2.2.2
    have hm : ((m.toNat : Nat) : Int) = m := Int.toNat_of_nonneg (by omega)
    rw [hm] at hx
    rw [decide_eq_true hin, if_pos hin]
    try simp -implicitDefEqProofs only [Bool.not_true, cond_false]
    rw [hL_empty, hx]
    rcases hp with ⟨rfl, hb⟩ | ⟨s, o, rfl, hacc, hs⟩
    · rw [hm] at hb
      rw [if_neg hb]
      rfl
    · have he := plan_end (by omega) hs
      rw [hm] at he
      rw [if_pos he]
      try simp -implicitDefEqProofs only [Option.bind_some]
      show (rdRow false (hL sl) PE s).bind _ = _
      rw [hacc.read rfl]
      rfl
  · rw [decide_eq_false hin, if_neg hin]
    rfl
theorem rplan_loop {f l d : Int} {m : Nat} (hf : 0 ≤ f ∧ f ≤ 100000) (hl : 1 ≤ l ∧ l ≤ 100000) (hm : m ≤ 64) (hd : 0 ≤ d ∧ d ≤ 100000) :
    ∃ x, iter FUEL (spileref50_Plan.loop1 f l (m : Int) d) ((⟨.nil, 0, 0, false⟩, 0), hL []) = some x ∧ PlanPost f l d m x := by
  refine iter_early (f := spileref50_Plan.loop1 f l (m : Int) d) (fun i st => ∃ s sl o, st = ((s, (i : Int)), hL sl) ∧ Acc sl PE (planL f l d i) s o ∧ ∀ j : Nat, j < i → f + (j : Int) * l + l - 1 + d ≤ 100000)
    (PlanPost f l d m) m (fun i st hi hst => ?_) (fun st hst => ?_) FUEL 0 _ (Nat.zero_le _) ⟨_, [], none, ?_, Acc.nil, fun j hj => absurd hj (Nat.not_lt_zero j)⟩ (fuel_gt (by omega))
  · obtain ⟨s, sl, o, rfl, hacc, hs⟩ := hst
    have h1 := mul_low (i := i) (l := l) (by omega)
    have h2 := mul_64 (i := i) (l := l) (by omega) hl.2 (by omega)
    have hst := mul_step (i := i) (l := l)
    have n1 := new_cP (sl := sl) (p := (f + (i : Int) * l, f + (i : Int) * l + l - 1, 0, false))
    have n2 : H.wrs (hL (sl ++ [cP (f + (i : Int) * l, f + (i : Int) * l + l - 1, 0, false)])) (.hp sl.length 4 2) [.int .i64 (f + (i : Int) * l + l - 1 + d)] = some (hL (sl ++ [cP (planP f l d i)])) := by
      rw [wrs_own (g := 4) (cs := [.int .i64 (f + (i : Int) * l), .int .i64 (f + (i : Int) * l + l - 1), .int .i64 0, .bool false]) (e := 4) (by simp) rfl (by simp)]
      simp [splice, planP]
    have r1 := rd_cP (sl := sl ++ [cP (f + (i : Int) * l, f + (i : Int) * l + l - 1, 0, false)]) (id := sl.length) (p := (f + (i : Int) * l, f + (i : Int) * l + l - 1, 0, false)) (by simp)
    have r2 := rd_cP (sl := sl ++ [cP (planP f l d i)]) (id := sl.length) (p := planP f l d i) (by simp)
    have r3 : rdT (.agg [.int .i64, .int .i64, .int .i64, .bool]) (hL (sl ++ [cP (planP f l d i)])) (.hp sl.length 4 0) = some (planP f l d i) := by
      rw [rds_hp (by simp), hL_m]
      simp [planP, cP]
      rfl
    unfold spileref50_Plan.loop1
    try simp -implicitDefEqProofs only []
    rw [decide_eq_true (show (i : Int) < (m : Int) by omega), cond_true, i64_succ (by omega), hst, i64_in ((i : Int) * l) (by omega), i64_in ((i : Int) * l + l) (by omega), i64_in (f + (i : Int) * l) (by omega), i64_in (f + ((i : Int) * l + l)) (by omega), i64_in (f + ((i : Int) * l + l) - 1) (by omega), show f + ((i : Int) * l + l) - 1 = f + (i : Int) * l + l - 1 by omega]
    try simp -implicitDefEqProofs only [hL_new, hL_next]
    rw [n1]
    try simp -implicitDefEqProofs only [Option.bind_some]
    rw [r1.2.1]
    try simp -implicitDefEqProofs only [Option.bind_some]
    rw [i64_in (f + (i : Int) * l + l - 1 + d) (by omega), n2]
    try simp -implicitDefEqProofs only [Option.bind_some]
    rw [r2.2.2.1, r3]
    try simp -implicitDefEqProofs only [Option.bind_some, planP]
    by_cases hb : 100000 < f + (i : Int) * l + l - 1 + d
    · right
      rw [decide_eq_true hb, cond_true]
      exact ⟨_, rfl, _, .inl ⟨rfl, plan_big (by omega) hi hb⟩⟩
    · left
      obtain ⟨s', sl', id, k1, k2, -⟩ := (hacc.more (sl' := [cP (planP f l d i)])).append (w := 4) (b := 32) (x := planP f l d i) (vs := [.int .i64 (f + (i : Int) * l), .int .i64 (f + (i : Int) * l + l - 1), .int .i64 (f + (i : Int) * l + l - 1 + d), .bool false]) rfl (by omega) (by rw [planL_len]; omega) (by omega) rfl
      simp only [planP] at k1
      rw [decide_eq_false hb, cond_false, k1]
      try simp -implicitDefEqProofs only [Option.bind_some]
      refine ⟨_, rfl, s', sl', some id, rfl, by rw [planL_succ]; exact k2, fun j hj => ?_⟩
      rcases Nat.lt_or_ge j i with h | h
      · exact hs j h
      · have : j = i := by omega
        subst this; omega
  · obtain ⟨s, sl, o, rfl, hacc, hs⟩ := hst
    refine ⟨(.ex0 s, hL sl), ?_, sl, .inr ⟨s, o, rfl, hacc, hs⟩⟩
    unfold spileref50_Plan.loop1
    try simp -implicitDefEqProofs only []
    rw [decide_eq_false (by omega), cond_false]
  · simp
theorem RPlan_ok (f l m d : Int) : spileref50_PlanP f l m d = some (planOf f l m d) := by
  unfold spileref50_PlanP spileref50_Plan planOf
  rw [in_code Between_ok]
  try simp -implicitDefEqProofs only [Option.bind_some]
  by_cases hin : inPlan f l m d
  · obtain ⟨x, hx, sl, hp⟩ := rplan_loop (f := f) (l := l) (d := d) (m := m.toNat) hin.1 hin.2.1 (by omega) hin.2.2.2
    have hm : ((m.toNat : Nat) : Int) = m := Int.toNat_of_nonneg (by omega)
    rw [hm] at hx
    rw [decide_eq_true hin, if_pos hin]
    try simp -implicitDefEqProofs only [Bool.not_true, cond_false]
    rw [hL_empty, hx]
    rcases hp with ⟨rfl, hb⟩ | ⟨s, o, rfl, hacc, hs⟩
    · rw [hm] at hb
      rw [if_neg hb]
      rfl
    · have he := plan_end (by omega) hs
      rw [hm] at he
      rw [if_pos he]
      try simp -implicitDefEqProofs only [Option.bind_some]
      show (rdRow false (hL sl) PE s).bind _ = _
      rw [hacc.read rfl]
      rfl
  · rw [decide_eq_false hin, if_neg hin]
    rfl
end Go.Proofs.YtedhmdocimkldaaDoor
/- What statement.printable and spileref49.fault compute: the same. Conditions: none. -/
namespace Go.Proofs.YtedhmdocimkldaaDoor
open Go Go.Proofs.YtedhmdocimkldaaDoor.Ev
set_option linter.unusedVariables false
set_option linter.unusedSimpArgs false
set_option maxRecDepth 100000
set_option maxHeartbeats 4000000
abbrev j1 : List Leaf := [.int .i64]
abbrev numsC (c : Ch) : List Int := [c.1, c.2.1, c.2.2.1, c.2.2.2.1, c.2.2.2.2.1, c.2.2.2.2.2.1, c.2.2.2.2.2.2.1, c.2.2.2.2.2.2.2]
abbrev cellsC (c : Ch) : List V := [.int .i64 c.1, .int .i64 c.2.1, .int .i64 c.2.2.1, .int .i64 c.2.2.2.1, .int .i64 c.2.2.2.2.1, .int .i64 c.2.2.2.2.2.1, .int .i64 c.2.2.2.2.2.2.1, .int .i64 c.2.2.2.2.2.2.2]
abbrev cC (c : Ch) : Slot := .own (cellsC c) 8
abbrev cS (s : Int × Int × SV × Int) : Slot := .own [.int .i64 s.1, .int .i64 s.2.1, .slice s.2.2.1.a s.2.2.1.len s.2.2.1.cap s.2.2.1.tail, .int .i64 s.2.2.2] 4
def cq (xs : List Ch) (i : Nat) : Ch := (xs[i]?).getD (0, 0, 0, 0, 0, 0, 0, 0)
theorem cq_eq {xs : List Ch} {i : Nat} (h : i < xs.length) : xs[i]? = some (cq xs i) := by unfold cq; rw [List.getElem?_eq_getElem h]; rfl
theorem cq_mem {xs : List Ch} {i : Nat} (h : i < xs.length) : cq xs i ∈ xs := List.mem_of_getElem? (cq_eq h)
theorem rd_cC {sl : List Slot} {id : Nat} {c : Ch} (h : sl[id]? = some (cC c)) :
    rdT (.leaf (.int .i64)) (hL sl) (.hp id 8 0) = some c.1 ∧ rdT (.leaf (.int .i64)) (hL sl) (.hp id 8 1) = some c.2.1 ∧ rdT (.leaf (.int .i64)) (hL sl) (.hp id 8 2) = some c.2.2.1 ∧ rdT (.leaf (.int .i64)) (hL sl) (.hp id 8 3) = some c.2.2.2.1 ∧
    rdT (.leaf (.int .i64)) (hL sl) (.hp id 8 4) = some c.2.2.2.2.1 ∧ rdT (.leaf (.int .i64)) (hL sl) (.hp id 8 5) = some c.2.2.2.2.2.1 ∧ rdT (.leaf (.int .i64)) (hL sl) (.hp id 8 6) = some c.2.2.2.2.2.2.1 ∧ rdT (.leaf (.int .i64)) (hL sl) (.hp id 8 7) = some c.2.2.2.2.2.2.2 := by
  refine ⟨?_, ?_, ?_, ?_, ?_, ?_, ?_, ?_⟩ <;> (rw [rd_own (g := 8) h rfl]; rfl)
theorem rd_cS {sl : List Slot} {id : Nat} {s : Int × Int × SV × Int} (h : sl[id]? = some (cS s)) :
    rdT (.leaf (.int .i64)) (hL sl) (.hp id 4 0) = some s.1 ∧ rdT (.leaf (.int .i64)) (hL sl) (.hp id 4 1) = some s.2.1 ∧ rdT (.leaf .slice) (hL sl) (.hp id 4 2) = some s.2.2.1 ∧ rdT (.leaf (.int .i64)) (hL sl) (.hp id 4 3) = some s.2.2.2 := by
  refine ⟨?_, ?_, ?_, ?_⟩ <;> (rw [rd_own (g := 4) h rfl]; rfl)
theorem rds_cq {f : Bool} {h : H} {xs : List Ch} {i : Nat} (hi : i < xs.length) : rdT (.agg CH) h ((rowSV f CH xs).a.add (i * 8)) = some (cq xs i) := by
  rw [rds_rowF (ls := CH) (w := 8) rfl (by omega) rfl]; exact cq_eq hi
theorem rd_cq {f : Bool} {h : H} {xs : List Ch} {i : Nat} (hi : i < xs.length) :
    rdT (.leaf (.int .i64)) h ((rowSV f CH xs).a.add (i * 8 + 0)) = some (cq xs i).1 ∧ rdT (.leaf (.int .i64)) h ((rowSV f CH xs).a.add (i * 8 + 1)) = some (cq xs i).2.1 ∧ rdT (.leaf (.int .i64)) h ((rowSV f CH xs).a.add (i * 8 + 7)) = some (cq xs i).2.2.2.2.2.2.2 := by
  refine ⟨?_, ?_, ?_⟩ <;> (rw [rd_row (ls := CH) (w := 8) rfl (by omega), cq_eq hi]; rfl)
theorem nn_cq {f : Bool} {xs : List Ch} {n : Nat} (h : xs.length ≠ 0) : ((rowSV f CH xs).a.add n).nn = true := nn_row h (by decide)
theorem add_cq {f : Bool} {xs : List Ch} {n m : Nat} : V.add ((rowSV f CH xs).a.add n) m = (rowSV f CH xs).a.add (n + m) := add_add _ _ _
/-! ### Rows of numbers that grow off a literal -/
def Ints (sl : List Slot) (xs : List Int) (s : SV) (o : Option Nat) : Prop :=
  match o with
  | none => s = ⟨.lp true (cellsL j1 xs) 0, xs.length, xs.length, false⟩
  | some id => s = ownSV id j1 xs.length ∧ sl[id]? = some (.own (cellsL j1 xs) 1)
theorem cells1_len {xs : List Int} : (cellsL j1 xs).length = xs.length := by have := flat_length (f := true) (ls := j1) xs; simpa using this
theorem Ints.lt {sl : List Slot} {xs : List Int} {s : SV} {id : Nat} (h : Ints sl xs s (some id)) : id < sl.length := (List.getElem?_eq_some_iff.1 h.2).1
theorem Ints.more {sl sl' : List Slot} {xs : List Int} {s : SV} {o : Option Nat} (h : Ints sl xs s o) : Ints (sl ++ sl') xs s o := by
  cases o with
  | none => exact h
  | some id => exact ⟨h.1, by rw [List.getElem?_append_left h.lt]; exact h.2⟩
theorem Ints.len {sl : List Slot} {xs : List Int} {s : SV} {o : Option Nat} (h : Ints sl xs s o) : s.len = xs.length := by
  cases o with
  | none => rw [show s = _ from h]
  | some id => rw [h.1]; rfl
theorem cells1_get {xs : List Int} {i : Nat} : (cellsL j1 xs)[i]? = xs[i]?.map fun x => (V.int .i64 x) := by
  have := flat_get (f := true) (ls := j1) (xs := xs) (i := i) (o := 0) (by decide)
  simp only [List.length_cons, List.length_nil, Nat.zero_add, Nat.mul_one, Nat.add_zero] at this
  rw [this]
  cases xs[i]? <;> rfl
theorem Ints.read {sl : List Slot} {xs : List Int} {s : SV} {o : Option Nat} (h : Ints sl xs s o) (i : Nat) : rdT (.leaf (.int .i64)) (hL sl) (s.a.add (i * 1)) = xs[i]? := by
  cases o with
  | none =>
    rw [show s = _ from h]
    exact rd_rowI (f := true) (k := .i64) (xs := xs) (i := i)
  | some id =>
    rw [h.1]
    show rdT (.leaf (.int .i64)) (hL sl) (.hp id (xs.length * 1) (0 + i * 1)) = _
    rw [rd_own h.2 (by rw [cells1_len, Nat.mul_one]), Nat.zero_add, Nat.mul_one, cells1_get]
    cases xs[i]? <;> rfl
theorem cellsL_app {ls : List Leaf} {xs ys : List (LT ls)} : cellsL ls (xs ++ ys) = cellsL ls xs ++ cellsL ls ys := List.flatMap_append
theorem Ints.append {sl : List Slot} {xs ys : List Int} {s : SV} {o : Option Nat} (h : Ints sl xs s o) (hx : xs.length ≠ 0) (hy : ys.length ≠ 0) (hl : xs.length + ys.length ≤ 2 ^ 36) :
    ∃ s' sl' id, appendS (hL sl) none 1 8 s (cellsL j1 ys) ys.length = some (s', hL sl') ∧ Ints sl' (xs ++ ys) s' (some id) ∧ (o = some id ∨ o = none ∧ id = sl.length) ∧ sl.length ≤ sl'.length ∧ ∀ j, o ≠ some j → j < sl.length → sl'[j]? = sl[j]? := by
  cases o with
  | none =>
    have hs : s = _ := h
    refine ⟨ownSV sl.length j1 (xs ++ ys).length, sl ++ [.own (cellsL j1 (xs ++ ys)) 1], sl.length, ?_, ⟨rfl, by simp⟩, .inr ⟨rfl, rfl⟩, by simp, fun j _ hj => List.getElem?_append_left hj⟩
    rw [hs]
    have hc : cellsOf (hL sl) (.slice (.lp true (cellsL j1 xs) 0) xs.length xs.length false) 1 = some (xs.length, cellsL j1 xs) := by
      simp only [cellsOf, if_neg hx, H.rds, H.from, List.drop_zero, Option.bind_some]
      rw [if_pos ⟨by rw [cells1_len, Nat.mul_one]; exact Nat.le_refl _, by omega⟩, List.take_of_length_le (by rw [cells1_len, Nat.mul_one]; exact Nat.le_refl _)]
      rfl
    simp only [appendS, appendV]
    rw [if_neg hy, guardO_pos ⟨by unfold roomCells; exact hl, by omega⟩, if_neg (fun h => hx h.1), if_pos ⟨trivial, by omega⟩, hc]
    simp only [Option.bind_some, newAt, hL_new, hL_next]
    rw [cellsL_app]
    simp only [ownSV, List.length_append, List.length_cons, List.length_nil, Nat.zero_add, Nat.mul_one]
  | some id =>
    obtain ⟨h1, h2⟩ := h
    have hid := (List.getElem?_eq_some_iff.1 h2).1
    refine ⟨ownSV id j1 (xs ++ ys).length, sl.set id (.own (cellsL j1 (xs ++ ys)) 1), id, ?_, ⟨rfl, by rw [List.getElem?_set_self hid]⟩, .inl rfl, by simp, fun j hj hlt => by rw [List.getElem?_set_ne (fun e => hj (by rw [e]))]⟩
    rw [h1]
    simp only [appendS, appendV, ownSV, hL_m, h2, Option.getD_some]
    rw [if_neg hy, guardO_pos ⟨by unfold roomCells; exact hl, by omega⟩, if_neg hx, if_neg (by omega), if_pos ⟨trivial, trivial, by rw [cells1_len]; simp, trivial, rfl, Nat.le_refl _, by omega⟩]
    rw [hL_put hid, List.take_of_length_le (by rw [cells1_len, Nat.mul_one]; exact Nat.le_refl _), ← cellsL_app]
    simp only [List.length_append, List.length_cons, List.length_nil, Nat.zero_add, Nat.mul_one]
theorem Numbers_ok (c : Ch) : statement_numbersP c = some (numsC c) := by
  obtain ⟨c0, c1, c2, c3, c4, c5, c6, c7⟩ := c
  rfl
theorem RNumbers_ok (c : Ch) : spileref49_numbersP c = some (numsC c) := by
  obtain ⟨c0, c1, c2, c3, c4, c5, c6, c7⟩ := c
  rfl
end Go.Proofs.YtedhmdocimkldaaDoor
/- What statement.printable and spileref49.fault compute: the same. Conditions: none. -/
namespace Go.Proofs.YtedhmdocimkldaaDoor
open Go Go.Proofs.YtedhmdocimkldaaDoor.Ev
set_option linter.unusedVariables false
set_option linter.unusedSimpArgs false
set_option maxRecDepth 100000
set_option maxHeartbeats 4000000
def goodN (n : Int) : Bool := decide (0 ≤ n ∧ n ≤ 1125899906842624)
def goodC (c : Ch) : Bool := decide (1 ≤ c.2.1 ∧ c.2.1 ≤ 9)
def numsS (s : St) : List Int := [s.1, s.2.1, s.2.2.2] ++ s.2.2.1.flatMap numsC
def faultOf (s : St) : Int := if 64 < s.2.2.1.length then 8 else if s.2.2.1.all goodC = true ∧ (numsS s).all goodN = true then 0 else 2
theorem swithin_ok (n a b : Int) : statement_withinP n a b = some (decide (a ≤ n ∧ n ≤ b)) := (show statement_withinP n a b = period_withinP n a b from rfl).trans (within_ok n a b)
theorem print1_ok (n : Int) : statement_printable_1P n = some (!goodN n) := by
  unfold statement_printable_1P statement_printable_1
  rw [swithin_ok]; rfl
theorem IndexFunc_ints {T : Table} {v : V} {h : H} {xs : List Int} {s : SV} (p : Int → Bool) (hlen : s.len = xs.length) (hrd : ∀ i, rdT (.leaf (.int .i64)) h (s.a.add (i * 1)) = xs[i]?) (hn : xs.length < 2 ^ 63) (hc : ∀ x ∈ xs, ∀ {R : Type} (k : V → H → Option R), callV T.dy v [.int .i64 x] h k = k (.bool (p x)) h) :
    slices_IndexFunc_int_int T s v h = some (idxOf p xs, h) := by
  unfold slices_IndexFunc_int_int
  rw [iter_find xs p (fun i => (i : Int)) hn (fun i x hx => by
    obtain ⟨hlt, rfl⟩ := List.getElem?_eq_some_iff.1 hx
    unfold slices_IndexFunc_int_int.loop1
    try simp -implicitDefEqProofs only [hlen, Int.toNat_natCast]
    rw [decide_eq_true (by omega), cond_true, guardO_pos (by omega), hrd, hx]
    try simp -implicitDefEqProofs only [Option.bind_some]
    rw [hc _ (List.getElem_mem hlt)]
    try simp -implicitDefEqProofs only [Res.pack, Ty.pack, Leaf.pack, Option.bind_some]
    rw [i64_succ (by omega)]
    cases p xs[i] <;> rfl) (by
    unfold slices_IndexFunc_int_int.loop1
    try simp -implicitDefEqProofs only [hlen]
    rw [decide_eq_false (by omega), cond_false])]
  unfold idxOf
  cases xs.findIdx? p <;> rfl
theorem ContainsFunc_ints {T : Table} {v : V} {h : H} {xs : List Int} {s : SV} (p : Int → Bool) (hlen : s.len = xs.length) (hrd : ∀ i, rdT (.leaf (.int .i64)) h (s.a.add (i * 1)) = xs[i]?) (hn : xs.length < 2 ^ 63) (hc : ∀ x ∈ xs, ∀ {R : Type} (k : V → H → Option R), callV T.dy v [.int .i64 x] h k = k (.bool (p x)) h) :
    slices_ContainsFunc_int_int T s v h = some (xs.any p, h) := by
  unfold slices_ContainsFunc_int_int
  rw [IndexFunc_ints (T := slices_ContainsFunc_int_int.tb T) p hlen hrd hn hc]
  simp only [Option.bind_some, idxOf_nonneg]
abbrev numsTo (s : St) (i : Nat) : List Int := [s.1, s.2.1, s.2.2.2] ++ (s.2.2.1.take i).flatMap numsC
theorem numsTo_succ {s : St} {i : Nat} (h : i < s.2.2.1.length) : numsTo s (i + 1) = numsTo s i ++ numsC (cq s.2.2.1 i) := by
  unfold numsTo
  rw [List.take_add_one, cq_eq h, List.flatMap_append, List.append_assoc]
  simp
theorem numsTo_len {s : St} {i : Nat} (h : i ≤ s.2.2.1.length) : (numsTo s i).length = 3 + i * 8 := by
  induction i with
  | zero => rfl
  | succ i ih => rw [numsTo_succ (by omega), List.length_append, ih (by omega)]; show 3 + i * 8 + 8 = _; omega
theorem good_to {xs : List Ch} {i : Nat} (h : i < xs.length) : ((xs.take (i + 1)).all goodC) = ((xs.take i).all goodC && goodC (cq xs i)) := by
  rw [List.take_add_one, cq_eq h, List.all_append]
  simp
abbrev PrPost (s : St) (x : Flow SV Int × H) : Prop := ∃ sl, (x = (.ret 2, hL sl) ∧ s.2.2.1.all goodC = false) ∨ (∃ y o, x = (.ex0 y, hL sl) ∧ Ints sl (numsS s) y o ∧ s.2.2.1.all goodC = true)
theorem bad_all {xs : List Ch} {i : Nat} (h : i < xs.length) (hb : goodC (cq xs i) = false) : xs.all goodC = false := by
  cases hx : xs.all goodC with
  | false => rfl
  | true => have := List.all_eq_true.1 hx _ (cq_mem h); rw [hb] at this; cases this
theorem print_loop {s : St} {sl0 : List Slot} (hl : s.2.2.1.length ≤ 64) :
    ∃ x, iter FUEL (statement_printable.loop1 (rowSV false CH s.2.2.1)) ((⟨.lp true [.int .i64 s.1, .int .i64 s.2.1, .int .i64 s.2.2.2] 0, 3, 3, false⟩, 0), hL sl0) = some x ∧ PrPost s x := by
  refine iter_early (f := statement_printable.loop1 (rowSV false CH s.2.2.1)) (fun i st => ∃ y sl o, st = ((y, (i : Int)), hL sl) ∧ Ints sl (numsTo s i) y o ∧ (s.2.2.1.take i).all goodC = true)
    (PrPost s) s.2.2.1.length (fun i st hi hst => ?_) (fun st hst => ?_) FUEL 0 _ (Nat.zero_le _) ⟨_, sl0, none, rfl, rfl, rfl⟩ (fuel_gt (by omega))
  · obtain ⟨y, sl, o, rfl, hacc, hg⟩ := hst
    have n1 : H.wrs (hL (sl ++ [.own [.int .i64 0, .int .i64 0, .int .i64 0, .int .i64 0, .int .i64 0, .int .i64 0, .int .i64 0, .int .i64 0] 8])) (.hp sl.length 8 0) (cellsC (cq s.2.2.1 i)) = some (hL (sl ++ [cC (cq s.2.2.1 i)])) := by
      rw [wrs_own (g := 8) (cs := [.int .i64 0, .int .i64 0, .int .i64 0, .int .i64 0, .int .i64 0, .int .i64 0, .int .i64 0, .int .i64 0]) (e := 8) (by simp) rfl (by simp)]
      simp [splice]
    have r1 : rdT (.agg [.int .i64, .int .i64, .int .i64, .int .i64, .int .i64, .int .i64, .int .i64, .int .i64]) (hL (sl ++ [cC (cq s.2.2.1 i)])) (.hp sl.length 8 0) = some (cq s.2.2.1 i) := by
      rw [rds_hp (by simp), hL_m]
      simp
      rfl
    have hlen := numsTo_len (s := s) (i := i) (by omega)
    have hacc2 : Ints (sl ++ [cC (cq s.2.2.1 i)]) (numsTo s i) y o := hacc.more
    obtain ⟨s', sl', id, k1, k2, k3, k4, k5⟩ := hacc2.append (ys := numsC (cq s.2.2.1 i)) (by omega) (by simp) (by rw [hlen]; simp only [List.length_cons, List.length_nil]; omega)
    have ho : o ≠ some sl.length := fun e => by subst e; exact absurd hacc.lt (Nat.lt_irrefl _)
    have hsl := k5 sl.length ho (by simp)
    rw [List.getElem?_append_right (Nat.le_refl _), Nat.sub_self] at hsl
    have r2 := (rd_cC (sl := sl') (id := sl.length) (c := cq s.2.2.1 i) hsl).2.1
    unfold statement_printable.loop1
    try simp -implicitDefEqProofs only [rowSV_len, Int.toNat_natCast]
    rw [decide_eq_true (show (i : Int) < (s.2.2.1.length : Int) by omega), cond_true, guardO_pos (by omega), rds_cq hi]
    try simp -implicitDefEqProofs only [Option.bind_some, hL_new, hL_next]
    rw [n1]
    try simp -implicitDefEqProofs only [Option.bind_some]
    rw [r1]
    try simp -implicitDefEqProofs only [Option.bind_some]
    rw [Numbers_ok]
    try simp -implicitDefEqProofs only [Option.bind_some]
    rw [cellsOf_row (ls := j1) (w := 1) rfl (by omega) rfl]
    try simp -implicitDefEqProofs only [Option.bind_some]
    rw [k1]
    try simp -implicitDefEqProofs only [Option.bind_some]
    rw [r2]
    try simp -implicitDefEqProofs only [Option.bind_some, swithin_ok]
    cases hgc : goodC (cq s.2.2.1 i) with
    | false =>
      right
      rw [show decide (1 ≤ (cq s.2.2.1 i).2.1 ∧ (cq s.2.2.1 i).2.1 ≤ 9) = false from hgc]
      exact ⟨_, rfl, _, .inl ⟨rfl, bad_all hi hgc⟩⟩
    | true =>
      left
      rw [show decide (1 ≤ (cq s.2.2.1 i).2.1 ∧ (cq s.2.2.1 i).2.1 ≤ 9) = true from hgc]
      try simp -implicitDefEqProofs only [Bool.not_true, cond_false]
      rw [i64_succ (by omega)]
      exact ⟨_, rfl, s', sl', some id, rfl, by rw [numsTo_succ hi]; exact k2, by rw [good_to hi, hg, hgc]; rfl⟩
  · obtain ⟨y, sl, o, rfl, hacc, hg⟩ := hst
    rw [show numsTo s s.2.2.1.length = numsS s by unfold numsTo numsS; rw [List.take_length]] at hacc
    rw [List.take_length] at hg
    refine ⟨(.ex0 y, hL sl), ?_, sl, .inr ⟨y, o, rfl, hacc, hg⟩⟩
    unfold statement_printable.loop1
    try simp -implicitDefEqProofs only [rowSV_len]
    rw [decide_eq_false (by omega), cond_false]
theorem any_not_all {xs : List Int} : (xs.any fun x => !goodN x) = !xs.all goodN := by
  induction xs with
  | nil => rfl
  | cons x xs ih => rw [List.any_cons, List.all_cons, ih]; cases goodN x <;> cases xs.all goodN <;> rfl
theorem numsS_len {s : St} : (numsS s).length = 3 + s.2.2.1.length * 8 := by
  have := numsTo_len (s := s) (i := s.2.2.1.length) (Nat.le_refl _)
  unfold numsTo at this; rw [List.take_length] at this; exact this
theorem Printable_ok (s : St) : statement_printableP s = some (faultOf s) := by
  obtain ⟨a, b, cs, t⟩ := s
  unfold statement_printableP statement_printable faultOf
  try simp -implicitDefEqProofs only [hL_empty, hL_new, hL_next, List.nil_append, List.length_nil]
  have rs := rd_cS (sl := [cS (a, b, rowSV false CH cs, t)]) (id := 0) (s := (a, b, rowSV false CH cs, t)) rfl
  simp only [cS] at rs
  rw [rs.2.2.1]
  try simp -implicitDefEqProofs only [Option.bind_some]
  by_cases h1 : 64 < cs.length
  · rw [decide_eq_true (show (64 : Int) < (((rowSV false CH cs).len : Nat) : Int) by rw [rowSV_len]; omega), if_pos h1]
    rfl
  · rw [decide_eq_false (show ¬ (64 : Int) < (((rowSV false CH cs).len : Nat) : Int) by rw [rowSV_len]; omega), if_neg h1, cond_false, rs.1, Option.bind_some, rs.2.1, Option.bind_some, rs.2.2.2, Option.bind_some]
    obtain ⟨x, hx, sl, hp⟩ := print_loop (s := (a, b, cs, t)) (sl0 := [cS (a, b, rowSV false CH cs, t)]) (by show cs.length ≤ 64; omega)
    simp only [cS] at hx
    rw [hx]
    rcases hp with ⟨rfl, hb⟩ | ⟨y, o, rfl, hacc, hg⟩
    · rw [if_neg (show ¬ (cs.all goodC = true ∧ _) from fun h => by rw [show cs.all goodC = false from hb] at h; cases h.1)]
      rfl
    · have hlen := numsS_len (s := (a, b, cs, t))
      try simp -implicitDefEqProofs only [Option.bind_some]
      rw [ContainsFunc_ints (T := statement_printable.tb) (v := .func 81 []) (h := hL sl) (xs := numsS (a, b, cs, t)) (s := y) (fun x => !goodN x) hacc.len hacc.read (by rw [hlen]; show 3 + cs.length * 8 < _; omega) (fun x hx R k => by
        show (statement_printable_1P x).bind (fun r => k ((Res.one (.leaf .bool)).lo true r) _) = _
        rw [print1_ok]; rfl), any_not_all]
      try simp -implicitDefEqProofs only [Option.bind_some]
      cases hN : (numsS (a, b, cs, t)).all goodN with
      | true => rw [if_pos ⟨hg, rfl⟩]; rfl
      | false => rw [if_neg (fun h => by cases h.2)]; rfl
end Go.Proofs.YtedhmdocimkldaaDoor
/- What spileref49.fault computes. Conditions: none. -/
namespace Go.Proofs.YtedhmdocimkldaaDoor
open Go Go.Proofs.YtedhmdocimkldaaDoor.Ev
set_option linter.unusedVariables false
set_option linter.unusedSimpArgs false
set_option maxRecDepth 100000
set_option maxHeartbeats 4000000
abbrev RfPost (s : St) (sv : SV) (x : Flow SV Int × H) : Prop := ∃ sl y o, x = (.ex0 y, hL sl) ∧ Ints sl (numsS s) y o ∧ sl[0]? = some (cS (s.1, s.2.1, sv, s.2.2.2))
theorem rfault_loop1 {s : St} (hl : s.2.2.1.length ≤ 64) :
    ∃ x, iter FUEL (spileref49_fault.loop1 (hL [])) ((⟨.lp true [.int .i64 s.1, .int .i64 s.2.1, .int .i64 s.2.2.2] 0, 3, 3, false⟩, 0), hL [cS (s.1, s.2.1, rowSV false CH s.2.2.1, s.2.2.2)]) = some x ∧ RfPost s (rowSV false CH s.2.2.1) x := by
  refine iter_early (f := spileref49_fault.loop1 (hL [])) (fun i st => ∃ y sl o, st = ((y, (i : Int)), hL sl) ∧ Ints sl (numsTo s i) y o ∧ o ≠ some 0 ∧ 0 < sl.length ∧ sl[0]? = some (cS (s.1, s.2.1, rowSV false CH s.2.2.1, s.2.2.2)))
    (RfPost s (rowSV false CH s.2.2.1)) s.2.2.1.length (fun i st hi hst => ?_) (fun st hst => ?_) FUEL 0 _ (Nat.zero_le _) ⟨_, _, none, rfl, rfl, by simp, by simp, rfl⟩ (fuel_gt (by omega))
  · obtain ⟨y, sl, o, rfl, hacc, ho0, hlt0, hs0⟩ := hst
    have hlen := numsTo_len (s := s) (i := i) (by omega)
    obtain ⟨s', sl', id, k1, k2, k3, k4, k5⟩ := hacc.append (ys := numsC (cq s.2.2.1 i)) (by omega) (by simp) (by rw [hlen]; simp only [List.length_cons, List.length_nil]; omega)
    have r0 := (rd_cS hs0).2.2.1
    left
    unfold spileref49_fault.loop1
    try simp -implicitDefEqProofs only [hL_next, List.length_nil]
    rw [r0]
    try simp -implicitDefEqProofs only [Option.bind_some, rowSV_len, Int.toNat_natCast]
    rw [decide_eq_true (show (i : Int) < (s.2.2.1.length : Int) by omega), cond_true, guardO_pos (by omega), rds_cq hi]
    try simp -implicitDefEqProofs only [Option.bind_some]
    rw [RNumbers_ok]
    try simp -implicitDefEqProofs only [Option.bind_some]
    rw [cellsOf_row (ls := j1) (w := 1) rfl (by omega) rfl]
    try simp -implicitDefEqProofs only [Option.bind_some]
    rw [k1]
    try simp -implicitDefEqProofs only [Option.bind_some]
    rw [i64_succ (by omega)]
    refine ⟨_, rfl, s', sl', some id, rfl, by rw [numsTo_succ hi]; exact k2, fun e => ?_, by omega, by rw [k5 0 ho0 hlt0]; exact hs0⟩
    cases e
    rcases k3 with h | ⟨-, h⟩
    · exact ho0 h
    · omega
  · obtain ⟨y, sl, o, rfl, hacc, ho0, hlt0, hs0⟩ := hst
    have r0 := (rd_cS hs0).2.2.1
    rw [show numsTo s s.2.2.1.length = numsS s by unfold numsTo numsS; rw [List.take_length]] at hacc
    refine ⟨(.ex0 y, hL sl), ?_, sl, y, o, rfl, hacc, hs0⟩
    unfold spileref49_fault.loop1
    try simp -implicitDefEqProofs only [hL_next, List.length_nil]
    rw [r0]
    try simp -implicitDefEqProofs only [Option.bind_some, rowSV_len]
    rw [decide_eq_false (by omega), cond_false]
theorem rfault_loop2 {xs : List Int} {y : SV} {h : H} (hlen : y.len = xs.length) (hrd : ∀ i, rdT (.leaf (.int .i64)) h (y.a.add (i * 1)) = xs[i]?) (hn : xs.length < 2 ^ 63) :
    iter FUEL (spileref49_fault.loop2 y) (0, h) = some (if xs.all goodN = true then (.ex0 (), h) else (.ret 2, h)) := by
  rw [iter_find xs (fun x => !goodN x) (fun _ => (2 : Int)) hn (fun i x hx => by
    obtain ⟨hlt, rfl⟩ := List.getElem?_eq_some_iff.1 hx
    unfold spileref49_fault.loop2
    try simp -implicitDefEqProofs only [hlen, Int.toNat_natCast]
    rw [decide_eq_true (by omega), cond_true, guardO_pos (by omega), hrd, hx]
    try simp -implicitDefEqProofs only [Option.bind_some, Between_ok]
    rw [i64_succ (by omega)]
    rw [show decide (0 ≤ xs[i] ∧ xs[i] ≤ 1125899906842624) = goodN xs[i] from rfl]
    cases goodN xs[i] <;> rfl) (by
    unfold spileref49_fault.loop2
    try simp -implicitDefEqProofs only [hlen]
    rw [decide_eq_false (by omega), cond_false])]
  have := all_find goodN xs
  cases hf : xs.findIdx? fun x => !goodN x with
  | none => rw [hf] at this; rw [if_pos (by simpa using this)]
  | some m => rw [hf] at this; rw [if_neg (by rw [this]; simp)]
theorem rfault_loop3 {s : St} {sl : List Slot} (hl : s.2.2.1.length ≤ 64) (hs0 : sl[0]? = some (cS (s.1, s.2.1, rowSV false CH s.2.2.1, s.2.2.2))) :
    iter FUEL (spileref49_fault.loop3 (hL [])) (0, hL sl) = some (if s.2.2.1.all goodC = true then (.ex0 (), hL sl) else (.ret 2, hL sl)) := by
  have r0 := (rd_cS hs0).2.2.1
  rw [iter_find s.2.2.1 (fun x => !goodC x) (fun _ => (2 : Int)) (by omega) (fun i x hx => by
    obtain ⟨hlt, hx'⟩ := List.getElem?_eq_some_iff.1 hx
    have hq : cq s.2.2.1 i = x := by unfold cq; rw [hx]; rfl
    unfold spileref49_fault.loop3
    try simp -implicitDefEqProofs only [hL_next, List.length_nil]
    rw [r0]
    try simp -implicitDefEqProofs only [Option.bind_some, rowSV_len, Int.toNat_natCast]
    rw [decide_eq_true (by omega), cond_true, guardO_pos (by omega), guardO_pos (nn_cq (by omega)), add_cq, guardO_pos (nn_cq (by omega)), add_cq, Nat.add_zero, (rd_cq hlt).2.1, hq]
    try simp -implicitDefEqProofs only [Option.bind_some, Between_ok]
    rw [i64_succ (by omega)]
    rw [show decide (1 ≤ x.2.1 ∧ x.2.1 ≤ 9) = goodC x from rfl]
    cases goodC x <;> rfl) (by
    unfold spileref49_fault.loop3
    try simp -implicitDefEqProofs only [hL_next, List.length_nil]
    rw [r0]
    try simp -implicitDefEqProofs only [Option.bind_some, rowSV_len]
    rw [decide_eq_false (by omega), cond_false])]
  have := all_find goodC s.2.2.1
  cases hf : s.2.2.1.findIdx? fun x => !goodC x with
  | none => rw [hf] at this; rw [if_pos (by simpa using this)]
  | some m => rw [hf] at this; rw [if_neg (by rw [this]; simp)]
theorem Fault_ok (s : St) : spileref49_faultP s = some (faultOf s) := by
  obtain ⟨a, b, cs, t⟩ := s
  unfold spileref49_faultP spileref49_fault faultOf
  try simp -implicitDefEqProofs only [hL_empty, hL_new, hL_next, List.nil_append, List.length_nil]
  have rs := rd_cS (sl := [cS (a, b, rowSV false CH cs, t)]) (id := 0) (s := (a, b, rowSV false CH cs, t)) rfl
  simp only [cS] at rs
  rw [rs.2.2.1]
  try simp -implicitDefEqProofs only [Option.bind_some]
  by_cases h1 : 64 < cs.length
  · rw [decide_eq_true (show (64 : Int) < (((rowSV false CH cs).len : Nat) : Int) by rw [rowSV_len]; omega), if_pos h1]
    rfl
  · rw [decide_eq_false (show ¬ (64 : Int) < (((rowSV false CH cs).len : Nat) : Int) by rw [rowSV_len]; omega), if_neg h1, cond_false, rs.1, Option.bind_some, rs.2.1, Option.bind_some, rs.2.2.2, Option.bind_some]
    obtain ⟨x, hx, sl, y, o, rfl, hacc, hs0⟩ := rfault_loop1 (s := (a, b, cs, t)) (by show cs.length ≤ 64; omega)
    have hlen := numsS_len (s := (a, b, cs, t))
    have h2 := rfault_loop2 (xs := numsS (a, b, cs, t)) (y := y) (h := hL sl) hacc.len hacc.read (by rw [hlen]; show 3 + cs.length * 8 < _; omega)
    have h3 := rfault_loop3 (s := (a, b, cs, t)) (sl := sl) (by show cs.length ≤ 64; omega) hs0
    simp only [cS] at hx
    rw [hx]
    try simp -implicitDefEqProofs only [Option.bind_some]
    rw [h2]
    cases hN : (numsS (a, b, cs, t)).all goodN with
    | false =>
      rw [if_neg (by simp), if_neg (fun h => by cases h.2)]
      rfl
    | true =>
      rw [if_pos rfl]
      try simp -implicitDefEqProofs only [Option.bind_some]
      rw [h3]
      cases hC : cs.all goodC with
      | false => rw [if_neg (by simp [hC]), if_neg (fun h => by cases h.1)]; rfl
      | true => rfl
theorem good_num {n : Int} (h : goodN n = true) : Pa.Num n := by
  have := of_decide_eq_true h
  exact ⟨this.1, by omega⟩
theorem fault_okS {s : St} (h : faultOf s = 0) : okS s := by
  unfold faultOf at h
  by_cases h1 : 64 < s.2.2.1.length
  · rw [if_pos h1] at h; omega
  rw [if_neg h1] at h
  by_cases h2 : s.2.2.1.all goodC = true ∧ (numsS s).all goodN = true
  · have hg := List.all_eq_true.1 h2.2
    refine ⟨by omega, good_num (hg _ (by simp [numsS])), good_num (hg _ (by simp [numsS])), good_num (hg _ (by simp [numsS])), fun c hc j => ?_⟩
    have hm : ∀ x ∈ numsC c, goodN x = true := fun x hx => hg x (by unfold numsS; exact List.mem_append_right _ (List.mem_flatMap.2 ⟨c, hc, hx⟩))
    have : ∀ j : Fin 8, zOf c j ∈ numsC c := fun j => by
      match j with
      | ⟨0, _⟩ => simp [zOf]
      | ⟨1, _⟩ => simp [zOf]
      | ⟨2, _⟩ => simp [zOf]
      | ⟨3, _⟩ => simp [zOf]
      | ⟨4, _⟩ => simp [zOf]
      | ⟨5, _⟩ => simp [zOf]
      | ⟨6, _⟩ => simp [zOf]
      | ⟨7, _⟩ => simp [zOf]
    exact good_num (hm _ (this j))
  · rw [if_neg h2] at h; omega
theorem fault_good {s : St} (h : faultOf s = 0) : s.2.2.1.length ≤ 64 ∧ ∀ x ∈ numsS s, 0 ≤ x ∧ x ≤ 1125899906842624 := by
  unfold faultOf at h
  by_cases h1 : 64 < s.2.2.1.length
  · rw [if_pos h1] at h; omega
  rw [if_neg h1] at h
  by_cases h2 : s.2.2.1.all goodC = true ∧ (numsS s).all goodN = true
  · exact ⟨by omega, fun x hx => of_decide_eq_true (List.all_eq_true.1 h2.2 x hx)⟩
  · rw [if_neg h2] at h; omega
end Go.Proofs.YtedhmdocimkldaaDoor
/- The duties of a statement by its items: Print, duties, Adjust, fits and duty as plain values. Conditions: numbers of 64 bits, few charges. -/
namespace Go.Proofs.YtedhmdocimkldaaDoor
open Go Go.Proofs.YtedhmdocimkldaaDoor.Ev
set_option linter.unusedVariables false
set_option linter.unusedSimpArgs false
set_option maxRecDepth 100000
set_option maxHeartbeats 4000000
theorem guardO_any {p : Prop} (i : Decidable p) {R : Type} (h : p) (x : Option R) : @guardO R p i x = x := @guardO_pos p i R h x
open Classical in
theorem Print_ok (s : St) : spileref49_PrintP s = some ((), faultOf s) := by
  unfold spileref49_PrintP
  rw [Fault_ok, Option.bind_some]
  exact guardO_any _ fault_okS _
theorem dec_any {p : Prop} (i j : Decidable p) : @decide p i = @decide p j := by congr
theorem ite_any {p : Prop} {α : Type} (i j : Decidable p) (a b : α) : @ite α p i a b = @ite α p j a b := by congr
/-- A statement that adjustments are made of. -/
def fitS (s : St) : Prop := faultOf s = 0 ∧ ((idsOf s).map Prod.fst).Nodup
open Classical in
theorem duties_ok {s : St} (hi : inS s) : period_dutiesP s = some ((), decide (fitS s)) := by
  unfold period_dutiesP
  rw [Printable_ok, Option.bind_some]
  exact (guardO_any _ ⟨fault_okS, hi⟩ _).trans (congrArg (fun b => some ((), b)) (dec_any (p := fitS s) _ _))
open Classical in
theorem PAdjust_ok {a b : St} (ha : inS a) (hb : inS b) : period_AdjustP a b = some (if fitS a ∧ fitS b then (if a.1 = b.1 ∧ a.2.1 = b.2.1 then (adjOf (idsOf a) (idsOf b), 0) else ([], 10)) else ([], 1)) := by
  unfold period_AdjustP
  rw [Printable_ok, Printable_ok, Option.bind_some, Option.bind_some]
  exact (guardO_any _ ⟨⟨fault_okS, ha⟩, fault_okS, hb⟩ _).trans (congrArg some (ite_any (p := fitS a ∧ fitS b) _ _ _ _))
/-- The duty of an item; 0 if there is none. -/
def dut (l : List (Int × Int)) (k : Int) : Int := match l.find? fun p => decide (p.1 = k) with | some p => p.2 | none => 0
theorem dut_mem {l : List (Int × Int)} (hn : (l.map Prod.fst).Nodup) {k n : Int} (h : (k, n) ∈ l) : dut l k = n := by
  unfold dut
  cases hf : l.find? fun p => decide (p.1 = k) with
  | none => have := List.find?_eq_none.1 hf _ h; simp at this
  | some p =>
    have h1 := List.find?_some hf
    have h2 := List.mem_of_find?_eq_some hf
    simp only [decide_eq_true_eq] at h1
    have hnd := List.pairwise_map.1 hn
    by_cases he : p = (k, n)
    · rw [he]
    · exfalso
      obtain ⟨i, hi, rfl⟩ := List.mem_iff_getElem.1 h2
      obtain ⟨j, hj, hje⟩ := List.mem_iff_getElem.1 h
      have hij : i ≠ j := fun e => by subst e; exact he hje
      rcases Nat.lt_or_gt_of_ne hij with hlt | hlt
      · have := List.pairwise_iff_getElem.1 hnd i j hi hj hlt
        rw [hje] at this; exact this h1
      · have := List.pairwise_iff_getElem.1 hnd j i hj hi hlt
        rw [hje] at this; exact this h1.symm
theorem dut_none {l : List (Int × Int)} {k : Int} (h : k ∉ l.map Prod.fst) : dut l k = 0 := by
  unfold dut
  have : (l.find? fun p => decide (p.1 = k)) = none := List.find?_eq_none.2 fun p hp => by
    simp only [decide_eq_true_eq]
    exact fun e => h (List.mem_map.2 ⟨p, hp, e⟩)
  rw [this]
theorem dut_look {l : List (Int × Int)} (hn : (l.map Prod.fst).Nodup) (k : Int) : (Pa.lookI l k = some (dut l k) ∧ k ∈ l.map Prod.fst) ∨ (Pa.lookI l k = none ∧ k ∉ l.map Prod.fst ∧ dut l k = 0) := by
  cases h : Pa.lookI l k with
  | some n => exact .inl ⟨by rw [dut_mem hn (Pa.lookI_mem k n l h)], (Pa.lookI_none k l).1 (by rw [h]; rfl)⟩
  | none =>
    have hno : k ∉ l.map Prod.fst := fun hm => by have := (Pa.lookI_none k l).2 hm; rw [h] at this; cases this
    exact .inr ⟨rfl, hno, dut_none hno⟩
/-- What adjustments are, said without maps. -/
def AdjD (la lb : List (Int × Int)) (ts : List (Int × Int)) : Prop := (∀ p : Int × Int, p ∈ ts ↔ p.2 = dut lb p.1 - dut la p.1 ∧ p.2 ≠ 0) ∧ ts.Pairwise (fun x y => x.1 < y.1)
theorem adj_dut {la lb : List (Int × Int)} (ha : (la.map Prod.fst).Nodup) (hb : (lb.map Prod.fst).Nodup) {ts : List (Int × Int)} (h : AdjD la lb ts) : Pa.AdjL la lb ts := by
  refine ⟨fun p => ?_, h.2⟩
  rw [h.1 p]
  unfold Pa.subE
  rcases dut_look ha p.1 with ⟨h1, _⟩ | ⟨h1, _, h2⟩ <;> rcases dut_look hb p.1 with ⟨h3, _⟩ | ⟨h3, _, h4⟩
  · rw [h1, h3]
    simp only [Option.getD_some, Option.some.injEq]
    constructor <;> (rintro ⟨x, y⟩; exact ⟨x.symm, y⟩)
  · rw [h1, h3, h4]
    simp only [Option.getD_none, Option.some.injEq]
    constructor <;> (rintro ⟨x, y⟩; exact ⟨x.symm, y⟩)
  · rw [h1, h3, h2]
    simp only [Option.some.injEq]
    constructor
    · rintro ⟨x, y⟩; exact ⟨by omega, y⟩
    · rintro ⟨x, y⟩; exact ⟨by omega, y⟩
  · rw [h1, h3, h2, h4]
    constructor
    · rintro ⟨x, y⟩; omega
    · rintro ⟨x, y⟩; cases x
theorem adjOf_dut {la lb : List (Int × Int)} (ha : (la.map Prod.fst).Nodup) (hb : (lb.map Prod.fst).Nodup) {ts : List (Int × Int)} (h : AdjD la lb ts) : adjOf la lb = ts := adjOf_eq (adj_dut ha hb h)
/-! ### fits -/
theorem ids_get {s : St} {i : Nat} (h : i < s.2.2.1.length) : (idsOf s)[i]? = some ((cq s.2.2.1 i).1, (cq s.2.2.1 i).2.2.2.2.2.2.2) := by
  unfold idsOf
  rw [List.getElem?_map, cq_eq h]
  rfl
theorem fits_loop1 {s : St} {sv : SV} {i : Nat} (hl : s.2.2.1.length ≤ 64) (hi : i < s.2.2.1.length) (hsv : sv = rowSV false CH s.2.2.1) :
    iter FUEL (spileref50_fits.loop1 (hL []) (i : Int)) (0, hL [cS (s.1, s.2.1, sv, s.2.2.2)]) = some (if ∃ k, k < i ∧ (cq s.2.2.1 k).1 = (cq s.2.2.1 i).1 then (.ret false, hL [cS (s.1, s.2.1, sv, s.2.2.2)]) else (.ex0 (), hL [cS (s.1, s.2.1, sv, s.2.2.2)])) := by
  subst hsv
  have r0 := (rd_cS (sl := [cS (s.1, s.2.1, rowSV false CH s.2.2.1, s.2.2.2)]) (id := 0) (s := (s.1, s.2.1, rowSV false CH s.2.2.1, s.2.2.2)) rfl).2.2.1
  have htl : (s.2.2.1.take i).length = i := by rw [List.length_take]; omega
  rw [iter_find (s.2.2.1.take i) (fun c => decide (c.1 = (cq s.2.2.1 i).1)) (fun _ => false) (by rw [htl]; omega) (fun k c hc => by
    obtain ⟨hlt, hc'⟩ := List.getElem?_eq_some_iff.1 hc
    rw [htl] at hlt
    have hq : cq s.2.2.1 k = c := by
      rw [List.getElem?_take_of_lt hlt] at hc
      unfold cq; rw [hc]; rfl
    unfold spileref50_fits.loop1
    try simp -implicitDefEqProofs only [reserve0, hL_next, List.length_nil]
    rw [decide_eq_true (show (k : Int) < (i : Int) by omega), cond_true, r0]
    try simp -implicitDefEqProofs only [Option.bind_some, rowSV_len, Int.toNat_natCast]
    rw [guardO_pos (by omega), guardO_pos (nn_cq (by omega)), add_cq, guardO_pos (nn_cq (by omega)), add_cq, (rd_cq (by omega)).1, hq]
    try simp -implicitDefEqProofs only [Option.bind_some]
    rw [guardO_pos (by omega), guardO_pos (nn_cq (by omega)), add_cq, guardO_pos (nn_cq (by omega)), add_cq, (rd_cq (by omega)).1]
    try simp -implicitDefEqProofs only [Option.bind_some]
    rw [i64_succ (by omega)]
    cases decide (c.1 = (cq s.2.2.1 i).1) <;> rfl) (by
    unfold spileref50_fits.loop1
    try simp -implicitDefEqProofs only [htl]
    rw [decide_eq_false (by omega), cond_false])]
  cases hf : (s.2.2.1.take i).findIdx? fun c => decide (c.1 = (cq s.2.2.1 i).1) with
  | none =>
    rw [if_neg]
    rintro ⟨k, hk, he⟩
    have hm : cq s.2.2.1 k ∈ s.2.2.1.take i := List.mem_of_getElem? (i := k) (by rw [List.getElem?_take_of_lt hk]; exact cq_eq (by omega))
    have := List.findIdx?_eq_none_iff.1 hf _ hm
    simp [he] at this
  | some k =>
    obtain ⟨hm, hbad, -⟩ := List.findIdx?_eq_some_iff_getElem.1 hf
    rw [htl] at hm
    have hq : cq s.2.2.1 k = (s.2.2.1.take i)[k] := by
      unfold cq; rw [List.getElem_take, List.getElem?_eq_getElem (by omega)]; rfl
    rw [if_pos ⟨k, hm, by rw [hq]; exact of_decide_eq_true hbad⟩]
def twice (s : St) (i : Nat) : Bool := decide (∃ k, k < i ∧ (cq s.2.2.1 k).1 = (cq s.2.2.1 i).1)
theorem nodup_iff {s : St} : ((idsOf s).map Prod.fst).Nodup ↔ ∀ i, i < s.2.2.1.length → twice s i = false := by
  have hlen : ((idsOf s).map Prod.fst).length = s.2.2.1.length := by simp [idsOf]
  have hg : ∀ i (h : i < ((idsOf s).map Prod.fst).length), ((idsOf s).map Prod.fst)[i] = (cq s.2.2.1 i).1 := fun i h => by
    have := ids_get (s := s) (i := i) (by omega)
    have h2 := List.getElem?_eq_some_iff.1 this
    rw [List.getElem_map, h2.2]
  constructor
  · intro h i hi
    refine decide_eq_false ?_
    rintro ⟨k, hk, he⟩
    have := List.pairwise_iff_getElem.1 h k i (by omega) (by omega) hk
    rw [hg, hg] at this
    exact this he
  · intro h
    refine List.pairwise_iff_getElem.2 fun i j hi hj hij => ?_
    rw [hg, hg]
    intro he
    have := of_decide_eq_false (h j (by omega))
    exact this ⟨i, hij, he⟩
open Classical in
theorem fits_ok (s : St) : spileref50_fitsP s = some (decide (fitS s)) := by
  obtain ⟨a, b, cs, t⟩ := s
  have rs := rd_cS (sl := [cS (a, b, rowSV false CH cs, t)]) (id := 0) (s := (a, b, rowSV false CH cs, t)) rfl
  have ra : rdT (.agg [.int .i64, .int .i64, .slice, .int .i64]) (hL [cS (a, b, rowSV false CH cs, t)]) (.hp 0 4 0) = some (a, b, rowSV false CH cs, t) := by
    rw [rds_hp (by simp), hL_m]
    rfl
  unfold spileref50_fitsP spileref50_fits
  try simp -implicitDefEqProofs only [hL_empty, hL_new, hL_next, List.nil_append, List.length_nil]
  simp only [cS] at ra
  rw [ra]
  try simp -implicitDefEqProofs only [Option.bind_some]
  rw [rdRow_args rfl]
  try simp -implicitDefEqProofs only [Option.bind_some, Print_ok]
  by_cases hf : faultOf (a, b, cs, t) = 0
  · rw [decide_eq_true hf]
    try simp -implicitDefEqProofs only [Bool.not_true, cond_false]
    have hl : cs.length ≤ 64 := (fault_good hf).1
    have hs := iter_scan (f := spileref50_fits.loop2 (hL [])) (y := (.ex0 (), hL [cS (a, b, rowSV false CH cs, t)])) (fun i => if twice (a, b, cs, t) i = true then some (.ret false, hL [cS (a, b, rowSV false CH cs, t)]) else none) cs.length (fun i => ((i : Int), hL [cS (a, b, rowSV false CH cs, t)])) FUEL (fun i hi => by
      unfold spileref50_fits.loop2
      try simp -implicitDefEqProofs only [hL_next, List.length_nil]
      rw [rs.2.2.1]
      try simp -implicitDefEqProofs only [Option.bind_some, rowSV_len]
      rw [decide_eq_true (show (i : Int) < (cs.length : Int) by omega), cond_true]
      rw [fits_loop1 (s := (a, b, cs, t)) (sv := rowSV false CH cs) hl hi rfl]
      unfold twice
      by_cases h : ∃ k, k < i ∧ (cq cs k).1 = (cq cs i).1
      · rw [if_pos h, if_pos (decide_eq_true h)]
        rfl
      · rw [if_neg h, if_neg (by simpa using h)]
        try simp -implicitDefEqProofs only [Option.bind_some]
        rw [i64_succ (by omega)]) (by
      unfold spileref50_fits.loop2
      try simp -implicitDefEqProofs only [hL_next, List.length_nil]
      rw [rs.2.2.1]
      try simp -implicitDefEqProofs only [Option.bind_some, rowSV_len]
      rw [decide_eq_false (by omega), cond_false]) (fuel_gt (by omega))
    simp only [cS] at hs
    have hz : (((0 : Nat) : Int)) = 0 := rfl
    simp only [hz] at hs
    rw [hs]
    cases hx : (List.range cs.length).find? (fun i => twice (a, b, cs, t) i) with
    | none =>
      have hno : ∀ i, i < cs.length → twice (a, b, cs, t) i = false := fun i hi => by simpa using List.find?_eq_none.1 hx i (List.mem_range.2 hi)
      have hall : (List.range cs.length).findSome? (fun i => if twice (a, b, cs, t) i = true then some ((.ret false, hL [cS (a, b, rowSV false CH cs, t)]) : Flow Unit Bool × H) else none) = none := by
        rw [List.findSome?_eq_none_iff]
        intro i hi
        rw [if_neg (by rw [hno i (List.mem_range.1 hi)]; simp)]
      simp only [cS] at hall
      rw [hall, decide_eq_true (show fitS (a, b, cs, t) from ⟨hf, nodup_iff.2 hno⟩)]
      rfl
    | some i =>
      have h1 := List.find?_some hx
      have h2 := List.mem_range.1 (List.mem_of_find?_eq_some hx)
      have hsome : (List.range cs.length).findSome? (fun i => if twice (a, b, cs, t) i = true then some ((.ret false, hL [cS (a, b, rowSV false CH cs, t)]) : Flow Unit Bool × H) else none) = some (.ret false, hL [cS (a, b, rowSV false CH cs, t)]) := by
        cases hq : (List.range cs.length).findSome? (fun i => if twice (a, b, cs, t) i = true then some ((.ret false, hL [cS (a, b, rowSV false CH cs, t)]) : Flow Unit Bool × H) else none) with
        | none =>
          have := List.findSome?_eq_none_iff.1 hq i (List.mem_range.2 h2)
          rw [if_pos h1] at this; cases this
        | some r =>
          obtain ⟨j, _, hj⟩ := List.exists_of_findSome?_eq_some hq
          split at hj
          · exact hj.symm
          · cases hj
      simp only [cS] at hsome
      rw [hsome, decide_eq_false (fun h : fitS (a, b, cs, t) => by have := nodup_iff.1 h.2 i h2; rw [h1] at this; cases this)]
      rfl
  · rw [decide_eq_false hf, decide_eq_false (fun h : fitS (a, b, cs, t) => hf h.1)]
    rfl
theorem Duty_ok (s : St) (k : Int) (hl : s.2.2.1.length ≤ 64) : spileref50_dutyP s k = some (dut (idsOf s) k) := by
  obtain ⟨a, b, cs, t⟩ := s
  have rs := rd_cS (sl := [cS (a, b, rowSV false CH cs, t)]) (id := 0) (s := (a, b, rowSV false CH cs, t)) rfl
  have hl : cs.length ≤ 64 := hl
  unfold spileref50_dutyP spileref50_duty
  try simp -implicitDefEqProofs only [hL_empty, hL_new, hL_next, List.nil_append, List.length_nil]
  have hit := iter_find (f := spileref50_duty.loop1 (hL []) k) (h := hL [cS (a, b, rowSV false CH cs, t)]) cs (fun c => decide (c.1 = k)) (fun i => (cq cs i).2.2.2.2.2.2.2) (by omega) (fun i c hc => by
    obtain ⟨hlt, hc'⟩ := List.getElem?_eq_some_iff.1 hc
    have hq : cq cs i = c := by unfold cq; rw [hc]; rfl
    unfold spileref50_duty.loop1
    try simp -implicitDefEqProofs only [hL_next, List.length_nil]
    rw [rs.2.2.1]
    try simp -implicitDefEqProofs only [Option.bind_some, rowSV_len, Int.toNat_natCast]
    rw [decide_eq_true (by omega), cond_true, guardO_pos (by omega), guardO_pos (nn_cq (by omega)), add_cq, guardO_pos (nn_cq (by omega)), add_cq, (rd_cq hlt).1]
    try simp -implicitDefEqProofs only [Option.bind_some]
    rw [guardO_pos (by omega), guardO_pos (nn_cq (by omega)), add_cq, (rd_cq hlt).2.2]
    try simp -implicitDefEqProofs only [Option.bind_some]
    rw [i64_succ (by omega), hq]
    cases decide (c.1 = k) <;> rfl) (by
    unfold spileref50_duty.loop1
    try simp -implicitDefEqProofs only [hL_next, List.length_nil]
    rw [rs.2.2.1]
    try simp -implicitDefEqProofs only [Option.bind_some, rowSV_len]
    rw [decide_eq_false (by omega), cond_false])
  simp only [cS] at hit
  rw [hit]
  unfold dut idsOf
  cases hf : cs.findIdx? fun c => decide (c.1 = k) with
  | none =>
    have : ((cs.map fun c => (c.1, c.2.2.2.2.2.2.2)).find? fun p => decide (p.1 = k)) = none := by
      rw [List.find?_eq_none]
      intro p hp
      obtain ⟨c, hc, rfl⟩ := List.mem_map.1 hp
      have := List.findIdx?_eq_none_iff.1 hf c hc
      simpa using this
    rw [this]
    rfl
  | some i =>
    obtain ⟨hm, hbad, hgood⟩ := List.findIdx?_eq_some_iff_getElem.1 hf
    have hq : cq cs i = cs[i] := by unfold cq; rw [List.getElem?_eq_getElem hm]; rfl
    have : ((cs.map fun c => (c.1, c.2.2.2.2.2.2.2)).find? fun p => decide (p.1 = k)) = some ((cs[i]).1, (cs[i]).2.2.2.2.2.2.2) := by
      have hfi : cs.find? (fun c => decide (c.1 = k)) = some cs[i] := List.find?_eq_some_iff_getElem.2 ⟨hbad, i, hm, rfl, fun j hj => by simpa using hgood j hj⟩
      rw [List.find?_map]
      show Option.map _ (cs.find? (fun c => decide (c.1 = k))) = _
      rw [hfi]
      rfl
    rw [this, ← hq]
    rfl
end Go.Proofs.YtedhmdocimkldaaDoor
/- spileref50.Adjust: its adjustments are adjOf. Conditions: numbers of 64 bits. -/
namespace Go.Proofs.YtedhmdocimkldaaDoor
open Go Go.Proofs.YtedhmdocimkldaaDoor.Ev
set_option linter.unusedVariables false
set_option linter.unusedSimpArgs false
set_option maxRecDepth 100000
set_option maxHeartbeats 4000000
abbrev IT : List Leaf := [.int .i64, .int .i64, .int .i64, .int .i64, .int .i64]
abbrev itemOf (c : Ch) : LT IT := (c.1, c.2.1, c.2.2.1, c.2.2.2.1, c.2.2.2.2.1)
theorem rds_item {f : Bool} {h : H} {xs : List Ch} {i : Nat} (hi : i < xs.length) : rdT (.agg IT) h ((rowSV f CH xs).a.add (i * 8 + 0)) = some (itemOf (cq xs i)) := by
  have hd : (xs.flatMap fun x => LT.lo f CH x).drop (i * 8) = (cellsC (cq xs i)) ++ (xs.drop (i + 1)).flatMap fun x => LT.lo f CH x := by
    have := flat_drop (f := f) (ls := CH) xs i
    simp only [List.length_cons, List.length_nil, Nat.zero_add] at this
    rw [this, List.drop_eq_getElem_cons hi, List.flatMap_cons]
    have hq : xs[i] = cq xs i := by unfold cq; rw [List.getElem?_eq_getElem hi]; rfl
    rw [hq]
    rfl
  show (H.rds h _ 5).bind (LT.pack IT) = _
  rw [H.rds, from_row, Nat.add_zero, hd]
  rfl
theorem Acc.cells {sl : List Slot} {ls : List Leaf} {xs : List (LT ls)} {s : SV} {o : Option Nat} {w : Nat} (h : Acc sl ls xs s o) (hw : ls.length = w) (hpos : 0 < w) : cellsOf (hL sl) (.slice s.a s.len s.cap s.tail) w = some (xs.length, cellsL ls xs) := by
  subst hw
  cases o with
  | none =>
    obtain ⟨rfl, rfl | rfl⟩ := h <;> rfl
  | some id =>
    obtain ⟨h1, rfl, h3⟩ := h
    have hl := flat_length (f := true) (ls := ls) xs
    show cellsOf (hL sl) (.slice (.hp id (xs.length * ls.length) 0) xs.length xs.length true) ls.length = _
    simp only [cellsOf, if_neg (show ¬ xs.length = 0 by omega), H.rds, H.from, hL_m, h3, Option.getD_some]
    rw [if_pos hl]
    simp only [List.drop_zero, Option.bind_some]
    rw [if_pos ⟨by rw [hl]; exact Nat.le_refl _, Nat.ne_of_gt (Nat.mul_pos h1 hpos)⟩, List.take_of_length_le (by rw [hl]; exact Nat.le_refl _)]
    rfl
theorem Acc.appendN {sl : List Slot} {ls : List Leaf} {xs ys : List (LT ls)} {s : SV} {o : Option Nat} {w b : Nat} (h : Acc sl ls xs s o) (hw : ls.length = w) (hpos : 0 < w) (hl : xs.length + ys.length ≤ 2 ^ 36) (hb : b ≤ 2 ^ 11) (hn : o = none → s = nilSV) :
    ∃ s' sl' o', appendS (hL sl) none w b s (cellsL ls ys) ys.length = some (s', hL sl') ∧ Acc sl' ls (xs ++ ys) s' o' ∧ sl.length ≤ sl'.length := by
  subst hw
  by_cases hy : ys.length = 0
  · have : ys = [] := List.eq_nil_of_length_eq_zero hy
    subst this
    refine ⟨s, sl, o, ?_, by rw [List.append_nil]; exact h, Nat.le_refl _⟩
    simp only [appendS, appendV, List.length_nil]
    rfl
  cases o with
  | none =>
    have hs := hn rfl
    obtain ⟨rfl, -⟩ := h
    subst hs
    refine ⟨ownSV sl.length ls ys.length, sl ++ [.own (cellsL ls ys) ls.length], some sl.length, ?_, ⟨by simp; omega, rfl, by simp⟩, by simp⟩
    simp only [appendS, appendV, nilSV]
    rw [if_neg hy, guardO_pos ⟨by unfold roomCells; simpa using hl, hb⟩, if_pos ⟨trivial, trivial, trivial⟩]
    simp only [newAt, hL_new, hL_next]
    rfl
  | some id =>
    obtain ⟨h1, rfl, h3⟩ := h
    have hid := (List.getElem?_eq_some_iff.1 h3).1
    have hxl := flat_length (f := true) (ls := ls) xs
    refine ⟨ownSV id ls (xs ++ ys).length, sl.set id (.own (cellsL ls (xs ++ ys)) ls.length), some id, ?_, ⟨by simp; omega, rfl, by rw [List.getElem?_set_self hid]⟩, by simp⟩
    simp only [appendS, appendV, ownSV, hL_m, h3, Option.getD_some]
    rw [if_neg hy, guardO_pos ⟨by unfold roomCells; exact hl, hb⟩, if_neg (by omega), if_neg (by omega), if_pos ⟨trivial, trivial, hxl, trivial, trivial, Nat.le_refl _, hpos⟩]
    rw [hL_put hid, List.take_of_length_le (by rw [hxl]; exact Nat.le_refl _), ← cellsL_app]
    simp only [List.length_append]
theorem Items_ok {B : List Slot} {s : St} {f : Bool} (hl : s.2.2.1.length ≤ 64) : ∃ s' sl' o, spileref49_Items (s.1, s.2.1, rowSV f CH s.2.2.1, s.2.2.2) (hL B) = some (s', hL sl') ∧ Acc sl' IT (s.2.2.1.map itemOf) s' o ∧ B.length ≤ sl'.length ∧ (∀ j, j < B.length → sl'[j]? = B[j]?) ∧ (∀ id, o = some id → B.length ≤ id) ∧ (o = none → s' = nilSV) := by
  obtain ⟨a, b, cs, t⟩ := s
  have hl : cs.length ≤ 64 := hl
  unfold spileref49_Items
  try simp -implicitDefEqProofs only [hL_new, hL_next]
  obtain ⟨x, hx, y, sl, o, rfl, hp⟩ := iter_early (f := spileref49_Items.loop1 (hL B)) (fun i st => ∃ y sl o, st = ((y, (i : Int)), hL sl) ∧ Acc sl IT ((cs.take i).map itemOf) y o ∧ B.length < sl.length ∧ sl[B.length]? = some (cS (a, b, rowSV f CH cs, t)) ∧ (∀ j, j < B.length → sl[j]? = B[j]?) ∧ (∀ id, o = some id → B.length < id) ∧ (o = none → y = nilSV))
    (fun x => ∃ y sl o, x = (.ex0 y, hL sl) ∧ Acc sl IT (cs.map itemOf) y o ∧ B.length < sl.length ∧ (∀ j, j < B.length → sl[j]? = B[j]?) ∧ (∀ id, o = some id → B.length < id) ∧ (o = none → y = nilSV)) cs.length (fun i st hi hst => by
      obtain ⟨y, sl, o, rfl, hacc, hlt, hs0, hfr, hid, hnil⟩ := hst
      have r0 := (rd_cS hs0).2.2.1
      obtain ⟨s', sl', id, k1, k2, k3, k4, k5⟩ := hacc.append (w := 5) (b := 40) (x := itemOf (cq cs i)) (vs := [.int .i64 (cq cs i).1, .int .i64 (cq cs i).2.1, .int .i64 (cq cs i).2.2.1, .int .i64 (cq cs i).2.2.2.1, .int .i64 (cq cs i).2.2.2.2.1]) rfl (by omega) (by rw [List.length_map, List.length_take]; omega) (by omega) rfl
      left
      unfold spileref49_Items.loop1
      try simp -implicitDefEqProofs only [hL_next]
      rw [r0]
      try simp -implicitDefEqProofs only [Option.bind_some, rowSV_len, Int.toNat_natCast]
      rw [decide_eq_true (by omega), cond_true, guardO_pos (by omega), guardO_pos (nn_cq (by omega)), add_cq, rds_item hi]
      try simp -implicitDefEqProofs only [Option.bind_some]
      rw [k1]
      try simp -implicitDefEqProofs only [Option.bind_some]
      rw [i64_succ (by omega)]
      refine ⟨_, rfl, s', sl', some id, rfl, ?_, by omega, ?_, fun j hj => ?_, fun id' e => ?_, fun e => by cases e⟩
      · rw [List.take_add_one, cq_eq hi, List.map_append]
        exact k2
      · rw [k5 B.length (fun e => by have := hid _ e; omega) hlt]; exact hs0
      · rw [k5 j (fun e => by have := hid _ e; omega) (by omega)]; exact hfr j hj
      · cases e
        rcases k3 with e | ⟨_, e⟩
        · exact hid _ e
        · omega) (fun st hst => by
      obtain ⟨y, sl, o, rfl, hacc, hlt, hs0, hfr, hid, hnil⟩ := hst
      have r0 := (rd_cS hs0).2.2.1
      rw [List.take_length] at hacc
      refine ⟨(.ex0 y, hL sl), ?_, y, sl, o, rfl, hacc, hlt, hfr, hid, hnil⟩
      unfold spileref49_Items.loop1
      try simp -implicitDefEqProofs only [hL_next]
      rw [r0]
      try simp -implicitDefEqProofs only [Option.bind_some, rowSV_len]
      rw [decide_eq_false (by omega), cond_false]) FUEL 0 ((nilSV, 0), hL (B ++ [cS (a, b, rowSV f CH cs, t)])) (Nat.zero_le _) ⟨nilSV, _, none, rfl, Acc.nil, by simp, by simp, fun j hj => List.getElem?_append_left hj, fun id e => (by cases e), fun _ => rfl⟩ (fuel_gt (by omega))
  simp only [cS, nilSV] at hx
  rw [hx]
  obtain ⟨h1, h2, h3, h4, h5⟩ := hp
  exact ⟨y, sl, o, rfl, h1, by omega, h3, fun id e => Nat.le_of_lt (h4 id e), h5⟩
/-! ### The least item behind the last one -/
def leastA (last : Int) (xs : List Int) : Int := xs.foldl (fun n x => if last < x ∧ (n < 0 ∨ x < n) then x else n) (-1)
theorem leastA_snoc {last x : Int} {xs : List Int} : leastA last (xs ++ [x]) = if last < x ∧ (leastA last xs < 0 ∨ x < leastA last xs) then x else leastA last xs := by unfold leastA; rw [List.foldl_append]; rfl
theorem leastA_spec {last : Int} (h0 : -1 ≤ last) (xs : List Int) : (leastA last xs = -1 ∧ ∀ x ∈ xs, x ≤ last) ∨ (leastA last xs ∈ xs ∧ last < leastA last xs ∧ ∀ x ∈ xs, last < x → leastA last xs ≤ x) := by
  suffices h : ∀ ys : List Int, (leastA last ys.reverse = -1 ∧ ∀ x ∈ ys.reverse, x ≤ last) ∨ (leastA last ys.reverse ∈ ys.reverse ∧ last < leastA last ys.reverse ∧ ∀ x ∈ ys.reverse, last < x → leastA last ys.reverse ≤ x) by
    have := h xs.reverse; rwa [List.reverse_reverse] at this
  intro ys
  induction ys with
  | nil => exact .inl ⟨rfl, by simp⟩
  | cons y ys ih =>
    rw [List.reverse_cons, leastA_snoc]
    by_cases hc : last < y ∧ (leastA last ys.reverse < 0 ∨ y < leastA last ys.reverse)
    · rw [if_pos hc]
      refine .inr ⟨by simp, hc.1, fun x hx hlx => ?_⟩
      rcases List.mem_append.1 hx with hx | hx
      · rcases ih with ⟨h1, h2⟩ | ⟨h1, h2, h3⟩
        · have := h2 x hx; omega
        · have := h3 x hx hlx; omega
      · simp at hx; omega
    · rw [if_neg hc]
      rcases ih with ⟨h1, h2⟩ | ⟨h1, h2, h3⟩
      · refine .inl ⟨h1, fun x hx => ?_⟩
        rcases List.mem_append.1 hx with hx | hx
        · exact h2 x hx
        · simp at hx; omega
      · refine .inr ⟨List.mem_append_left _ h1, h2, fun x hx hlx => ?_⟩
        rcases List.mem_append.1 hx with hx | hx
        · exact h3 x hx hlx
        · simp at hx; omega
end Go.Proofs.YtedhmdocimkldaaDoor
/- spileref50.Adjust: its adjustments are adjOf. Conditions: none. -/
namespace Go.Proofs.YtedhmdocimkldaaDoor
open Go Go.Proofs.YtedhmdocimkldaaDoor.Ev
set_option linter.unusedVariables false
set_option linter.unusedSimpArgs false
set_option maxRecDepth 100000
set_option maxHeartbeats 4000000
theorem Acc.item {sl : List Slot} {xs : List (LT IT)} {s : SV} {o : Option Nat} (h : Acc sl IT xs s o) {i : Nat} (hi : i < xs.length) : V.nn (V.add s.a (i * 5)) = true ∧ rdT (.leaf (.int .i64)) (hL sl) (V.add (V.add s.a (i * 5)) 0) = some (xs[i]).1 := by
  cases o with
  | none => obtain ⟨rfl, _⟩ := h; simp at hi
  | some id =>
    obtain ⟨h1, rfl, h3⟩ := h
    refine ⟨rfl, ?_⟩
    have := rd_ownL (l := .int .i64) (ls := IT) (xs := xs) (sl := sl) (id := id) (e := 5) (n := xs.length * 5) (i := i) (w := 5) (o := 0) h3 rfl rfl (by omega)
    show rdT (.leaf (.int .i64)) (hL sl) (.hp id (xs.length * 5) (0 + i * 5 + 0)) = _
    rw [Nat.zero_add, this, List.getElem?_eq_getElem hi]
    rfl
theorem inner_ok {h : H} {s : SV} {ids : List Int} {last : Int} (hlen : s.len = ids.length) (hrd : ∀ i (hi : i < ids.length), V.nn (V.add s.a (i * 5)) = true ∧ rdT (.leaf (.int .i64)) h (V.add (V.add s.a (i * 5)) 0) = some ids[i]) (hn : ids.length ≤ 1000) :
    iter FUEL (spileref50_Adjust.loop1 s last) ((-1, 0), h) = some (.ex0 (leastA last ids), h) := by
  refine iter_from (fun i => ((leastA last (ids.take i), (i : Int)), h)) rfl ids.length FUEL (fun i hi => ?_) ?_ (fuel_gt (by omega))
  · obtain ⟨h1, h2⟩ := hrd i hi
    have hs : leastA last (ids.take (i + 1)) = if last < ids[i] ∧ (leastA last (ids.take i) < 0 ∨ ids[i] < leastA last (ids.take i)) then ids[i] else leastA last (ids.take i) := by
      rw [← List.take_append_getElem hi, leastA_snoc]
    unfold spileref50_Adjust.loop1
    try simp -implicitDefEqProofs only [hlen, Int.toNat_natCast]
    rw [decide_eq_true (show (i : Int) < (ids.length : Int) by omega), cond_true, guardO_pos (show 0 ≤ (i : Int) ∧ (i : Int) < (ids.length : Int) by omega), guardO_pos h1, h2, hs]
    try simp -implicitDefEqProofs only [Option.bind_some]
    by_cases c1 : last < ids[i]
    · rw [decide_eq_true c1, cond_true]
      by_cases c2 : leastA last (ids.take i) < 0
      · rw [decide_eq_true c2, if_pos ⟨c1, .inl c2⟩]
        try simp -implicitDefEqProofs only [Bool.not_true, cond_false, Option.bind_some, cond_true]
        rw [guardO_pos (show 0 ≤ (i : Int) ∧ (i : Int) < (ids.length : Int) by omega), guardO_pos h1, h2]
        try simp -implicitDefEqProofs only [Option.bind_some]
        rw [i64_succ (by omega)]
      · rw [decide_eq_false c2]
        try simp -implicitDefEqProofs only [Bool.not_false, cond_true]
        rw [guardO_pos (show 0 ≤ (i : Int) ∧ (i : Int) < (ids.length : Int) by omega), guardO_pos h1]
        try simp -implicitDefEqProofs only [Option.bind_some]
        by_cases c3 : ids[i] < leastA last (ids.take i)
        · rw [decide_eq_true c3, if_pos ⟨c1, .inr c3⟩, cond_true, guardO_pos (show 0 ≤ (i : Int) ∧ (i : Int) < (ids.length : Int) by omega), guardO_pos h1, h2]
          try simp -implicitDefEqProofs only [Option.bind_some]
          rw [i64_succ (by omega)]
        · rw [decide_eq_false c3, if_neg (by omega), cond_false]
          try simp -implicitDefEqProofs only [Option.bind_some]
          rw [i64_succ (by omega)]
    · rw [decide_eq_false c1, if_neg (by omega)]
      try simp -implicitDefEqProofs only [cond_false, Option.bind_some]
      rw [i64_succ (by omega)]
  · unfold spileref50_Adjust.loop1
    try simp -implicitDefEqProofs only [hlen]
    rw [decide_eq_false (by omega), cond_false, List.take_length]
abbrev diff (a b : St) (k : Int) : Int := dut (idsOf b) k - dut (idsOf a) k
theorem dut_bound {s : St} (h : faultOf s = 0) (k : Int) : 0 ≤ dut (idsOf s) k ∧ dut (idsOf s) k ≤ 1125899906842624 := by
  unfold dut
  cases hf : (idsOf s).find? fun p => decide (p.1 = k) with
  | none => simp
  | some p =>
    obtain ⟨c, hc, rfl⟩ := List.mem_map.1 (List.mem_of_find?_eq_some hf)
    exact (fault_good h).2 _ (by unfold numsS; exact List.mem_append_right _ (List.mem_flatMap.2 ⟨c, hc, by simp⟩))
theorem id_bound {s : St} (h : faultOf s = 0) {c : Ch} (hc : c ∈ s.2.2.1) : 0 ≤ c.1 := ((fault_good h).2 _ (by unfold numsS; exact List.mem_append_right _ (List.mem_flatMap.2 ⟨c, hc, by simp⟩))).1
theorem diff_id {a b : St} {k : Int} (h : diff a b k ≠ 0) : ∃ c ∈ a.2.2.1 ++ b.2.2.1, c.1 = k := by
  by_cases h1 : k ∈ (idsOf a).map Prod.fst
  · obtain ⟨p, hp, rfl⟩ := List.mem_map.1 h1
    obtain ⟨c, hc, rfl⟩ := List.mem_map.1 hp
    exact ⟨c, List.mem_append_left _ hc, rfl⟩
  by_cases h2 : k ∈ (idsOf b).map Prod.fst
  · obtain ⟨p, hp, rfl⟩ := List.mem_map.1 h2
    obtain ⟨c, hc, rfl⟩ := List.mem_map.1 hp
    exact ⟨c, List.mem_append_right _ hc, rfl⟩
  exfalso
  exact h (by unfold diff; rw [dut_none h1, dut_none h2]; rfl)
theorem count_up {l : List Int} {x y : Int} (hxy : x < y) (hy : y ∈ l) : l.countP (fun z => decide (z ≤ x)) < l.countP (fun z => decide (z ≤ y)) := by
  induction l with
  | nil => cases hy
  | cons z l ih =>
    simp only [List.countP_cons]
    have hmono : l.countP (fun z => decide (z ≤ x)) ≤ l.countP (fun z => decide (z ≤ y)) := List.countP_mono_left fun z _ hz => by simp at hz ⊢; omega
    rcases List.mem_cons.1 hy with e | hm
    · subst e
      rw [if_neg (by simp; omega), if_pos (by simp)]
      omega
    · have := ih hm
      by_cases hz : z ≤ x
      · rw [if_pos (by simpa using hz), if_pos (by simp; omega)]; omega
      · rw [if_neg (by simpa using hz)]; omega
theorem count_full {l : List Int} {x : Int} (h : l.length ≤ l.countP (fun z => decide (z ≤ x))) : ∀ z ∈ l, z ≤ x := by
  have := List.countP_eq_length.1 (Nat.le_antisymm List.countP_le_length h)
  intro z hz
  simpa using this z hz
/-- The adjustments up to an item. -/
def Upto (a b : St) (last : Int) (out : List (Int × Int)) : Prop := (∀ p : Int × Int, p ∈ out ↔ p.2 = diff a b p.1 ∧ p.2 ≠ 0 ∧ p.1 ≤ last) ∧ out.Pairwise (fun x y => x.1 < y.1)
theorem upto_step {a b : St} {last next : Int} {out : List (Int × Int)} (h : Upto a b last out) (hn : last < next) (hgap : ∀ c ∈ a.2.2.1 ++ b.2.2.1, last < c.1 → next ≤ c.1) : Upto a b next (out ++ (if diff a b next = 0 then [] else [(next, diff a b next)])) := by
  have hid : ∀ p : Int × Int, p.2 = diff a b p.1 → p.2 ≠ 0 → p.1 ≤ next → p.1 ≤ last ∨ p.1 = next := fun p h1 h2 h3 => by
    obtain ⟨c, hc, he⟩ := diff_id (a := a) (b := b) (k := p.1) (by rw [← h1]; exact h2)
    by_cases hl : last < c.1
    · have := hgap c hc hl; omega
    · omega
  by_cases hz : diff a b next = 0
  · rw [if_pos hz, List.append_nil]
    refine ⟨fun p => ?_, h.2⟩
    rw [h.1 p]
    constructor
    · rintro ⟨h1, h2, h3⟩; exact ⟨h1, h2, by omega⟩
    · rintro ⟨h1, h2, h3⟩
      refine ⟨h1, h2, ?_⟩
      rcases hid p h1 h2 h3 with h | h
      · exact h
      · exfalso; rw [h, hz] at h1; exact h2 h1
  · rw [if_neg hz]
    constructor
    · intro p
      rw [List.mem_append, h.1 p]
      constructor
      · rintro (⟨h1, h2, h3⟩ | hp)
        · exact ⟨h1, h2, by omega⟩
        · simp at hp; subst hp; exact ⟨rfl, hz, Int.le_refl _⟩
      · rintro ⟨h1, h2, h3⟩
        rcases hid p h1 h2 h3 with h | h
        · exact .inl ⟨h1, h2, h⟩
        · right; simp; obtain ⟨p1, p2⟩ := p; simp only at h1 h; subst h; rw [h1]
    · refine List.pairwise_append.2 ⟨h.2, List.pairwise_singleton _ _, fun p hp q hq => ?_⟩
      simp at hq; subst hq
      have := ((h.1 p).1 hp).2.2
      show p.1 < next
      omega
theorem upto_end {a b : St} {last : Int} {out : List (Int × Int)} (h : Upto a b last out) (hall : ∀ c ∈ a.2.2.1 ++ b.2.2.1, c.1 ≤ last) : AdjD (idsOf a) (idsOf b) out := by
  refine ⟨fun p => ?_, h.2⟩
  rw [h.1 p]
  constructor
  · rintro ⟨h1, h2, _⟩; exact ⟨h1, h2⟩
  · rintro ⟨h1, h2⟩
    obtain ⟨c, hc, he⟩ := diff_id (a := a) (b := b) (k := p.1) (by rw [show diff a b p.1 = p.2 from h1.symm]; exact h2)
    exact ⟨h1, h2, by rw [← he]; exact hall c hc⟩
theorem upto_start {a b : St} (ha : faultOf a = 0) (hb : faultOf b = 0) : Upto a b (-1) [] := by
  refine ⟨fun p => ⟨fun h => (by cases h), ?_⟩, List.Pairwise.nil⟩
  rintro ⟨h1, h2, h3⟩
  obtain ⟨c, hc, he⟩ := diff_id (a := a) (b := b) (k := p.1) (by rw [← h1]; exact h2)
  rcases List.mem_append.1 hc with hc | hc
  · have := id_bound ha hc; omega
  · have := id_bound hb hc; omega
end Go.Proofs.YtedhmdocimkldaaDoor
/- spileref50.Adjust: its adjustments are adjOf. Conditions: none. -/
namespace Go.Proofs.YtedhmdocimkldaaDoor
open Go Go.Proofs.YtedhmdocimkldaaDoor.Ev
set_option linter.unusedVariables false
set_option linter.unusedSimpArgs false
set_option maxRecDepth 100000
set_option maxHeartbeats 4000000
abbrev lpS (a b : Int) (sv : SV) (t : Int) : V := .lp true [.int .i64 a, .int .i64 b, .slice sv.a sv.len sv.cap sv.tail, .int .i64 t] 0
theorem rd_lpS {h : H} {a b t : Int} {sv : SV} : rdT (.agg [.int .i64, .int .i64, .slice, .int .i64]) h (lpS a b sv t) = some (a, b, sv, t) := rfl
theorem rd_lp01 {h : H} {a b t : Int} {sv : SV} : rdT (.leaf (.int .i64)) h (lpS a b sv t) = some a ∧ rdT (.leaf (.int .i64)) h (.lp true [.int .i64 a, .int .i64 b, .slice sv.a sv.len sv.cap sv.tail, .int .i64 t] 1) = some b := ⟨rfl, rfl⟩
abbrev idL (a b : St) : List Int := (a.2.2.1 ++ b.2.2.1).map fun c => c.1
theorem idL_mem {a b : St} {c : Ch} (h : c ∈ a.2.2.1 ++ b.2.2.1) : c.1 ∈ idL a b := List.mem_map.2 ⟨c, h, rfl⟩
abbrev OutPost (a b : St) (x : Flow SV (SV × Int) × H) : Prop := ∃ y sl o out, x = (.ex0 y, hL sl) ∧ Acc sl PA out y o ∧ AdjD (idsOf a) (idsOf b) out ∧ out.length ≤ 128
theorem outer_ok {a b : St} (ha : faultOf a = 0) (hb : faultOf b = 0) {s24 : SV} {o24 : Option Nat} {sl0 : List Slot} {fa fb : Bool} (h24 : Acc sl0 IT (a.2.2.1.map itemOf ++ b.2.2.1.map itemOf) s24 o24) :
    ∃ x, iter FUEL (spileref50_Adjust.loop2 a.1 a.2.1 (rowSV fa CH a.2.2.1) a.2.2.2 b.1 b.2.1 (rowSV fb CH b.2.2.1) b.2.2.2 s24) ((⟨.nil, 0, 0, false⟩, -1, 0), hL sl0) = some x ∧ OutPost a b x := by
  have hla := (fault_good ha).1
  have hlb := (fault_good hb).1
  have hlen : (a.2.2.1.map itemOf ++ b.2.2.1.map itemOf).length = (idL a b).length := by simp [idL]
  have hlen2 : (idL a b).length = a.2.2.1.length + b.2.2.1.length := by simp [idL]
  have hids : ∀ i (hi : i < (idL a b).length), ((a.2.2.1.map itemOf ++ b.2.2.1.map itemOf)[i]'(by rw [hlen]; exact hi)).1 = (idL a b)[i] := fun i hi => by
    have : (a.2.2.1.map itemOf ++ b.2.2.1.map itemOf) = (a.2.2.1 ++ b.2.2.1).map itemOf := by rw [List.map_append]
    simp only [this, List.getElem_map, idL]
  refine iter_early (f := spileref50_Adjust.loop2 a.1 a.2.1 (rowSV fa CH a.2.2.1) a.2.2.2 b.1 b.2.1 (rowSV fb CH b.2.2.1) b.2.2.2 s24)
    (fun i st => ∃ y sl o out last, st = ((y, last, (i : Int)), hL sl) ∧ -1 ≤ last ∧ i ≤ (idL a b).countP (fun z => decide (z ≤ last)) ∧ Acc sl PA out y o ∧ Acc sl IT (a.2.2.1.map itemOf ++ b.2.2.1.map itemOf) s24 o24 ∧ (∀ id, o24 = some id → o ≠ some id) ∧ Upto a b last out ∧ out.length ≤ i)
    (OutPost a b) (idL a b).length (fun i st hi hst => ?_) (fun st hst => ?_) FUEL 0 _ (Nat.zero_le _) ⟨_, sl0, none, [], -1, rfl, Int.le_refl _, Nat.zero_le _, Acc.nil, h24, fun _ _ e => (by cases e), upto_start ha hb, Nat.le_refl _⟩ (fuel_gt (by omega))
  · obtain ⟨y, sl, o, out, last, rfl, hlast, hcnt, hacc, hit, hne, hup, hol⟩ := hst
    have hin := inner_ok (h := hL sl) (s := s24) (ids := idL a b) (last := last) (by rw [hit.len, hlen]) (fun j hj => by
      obtain ⟨h1, h2⟩ := Acc.item hit (i := j) (by rw [hlen]; exact hj)
      exact ⟨h1, by rw [h2, hids j hj]⟩) (by omega)
    unfold spileref50_Adjust.loop2
    try simp -implicitDefEqProofs only [hit.len, hlen, reserve0]
    rw [decide_eq_true (show (i : Int) < ((idL a b).length : Int) by omega), cond_true, hin]
    try simp -implicitDefEqProofs only [Option.bind_some]
    rcases leastA_spec hlast (idL a b) with ⟨h1, h2⟩ | ⟨h1, h2, h3⟩
    · right
      rw [h1, decide_eq_true (by omega), cond_true]
      exact ⟨_, rfl, y, sl, o, out, rfl, hacc, upto_end hup (fun c hc => h2 _ (idL_mem hc)), by omega⟩
    · left
      generalize hnx : leastA last (idL a b) = nx at h1 h2 h3
      rw [decide_eq_false (by omega), cond_false]
      have hda := dut_bound ha nx
      have hdb := dut_bound hb nx
      have hup2 := upto_step hup h2 (fun c hc hl => h3 _ (idL_mem hc) hl)
      have hcnt2 : i + 1 ≤ (idL a b).countP (fun z => decide (z ≤ nx)) := by have := count_up h2 h1; omega
      rw [rd_lpS]
      try simp -implicitDefEqProofs only [Option.bind_some]
      rw [rdRow_args rfl, Option.bind_some, Duty_ok (b.1, b.2.1, b.2.2.1, b.2.2.2) nx hlb, Option.bind_some, rd_lpS]
      try simp -implicitDefEqProofs only [Option.bind_some]
      rw [rdRow_args rfl, Option.bind_some, Duty_ok (a.1, a.2.1, a.2.2.1, a.2.2.2) nx hla, Option.bind_some]
      rw [i64_in (dut (idsOf (b.1, b.2.1, b.2.2.1, b.2.2.2)) nx - dut (idsOf (a.1, a.2.1, a.2.2.1, a.2.2.2)) nx) (by show _ ≤ dut (idsOf b) nx - dut (idsOf a) nx ∧ dut (idsOf b) nx - dut (idsOf a) nx ≤ _; omega), show dut (idsOf (b.1, b.2.1, b.2.2.1, b.2.2.2)) nx - dut (idsOf (a.1, a.2.1, a.2.2.1, a.2.2.2)) nx = diff a b nx from rfl]
      by_cases hz : diff a b nx = 0
      · rw [if_pos hz, List.append_nil] at hup2
        rw [decide_eq_true hz]
        try simp -implicitDefEqProofs only [Bool.not_true, cond_false, Option.bind_some]
        rw [i64_succ (by omega)]
        exact ⟨_, rfl, y, sl, o, out, nx, rfl, by omega, hcnt2, hacc, hit, hne, hup2, by omega⟩
      · rw [if_neg hz] at hup2
        obtain ⟨s', sl', id, k1, k2, k3, k4, k5⟩ := hacc.append (w := 2) (b := 16) (x := ((nx, diff a b nx) : LT PA)) (vs := [.int .i64 nx, .int .i64 (diff a b nx)]) rfl (by omega) (by omega) (by omega) rfl
        rw [decide_eq_false hz]
        try simp -implicitDefEqProofs only [Bool.not_false, cond_true]
        rw [k1]
        try simp -implicitDefEqProofs only [Option.bind_some]
        rw [i64_succ (by omega)]
        refine ⟨_, rfl, s', sl', some id, _, nx, rfl, by omega, hcnt2, k2, hit.frame fun id' e => ?_, fun id' e e2 => ?_, hup2, by rw [List.length_append]; simp only [List.length_cons, List.length_nil]; omega⟩
        · subst e
          exact k5 id' (hne id' rfl) hit.lt
        · cases e2
          rcases k3 with e3 | ⟨_, e3⟩
          · exact hne _ e e3
          · subst e
            have := hit.lt
            omega
  · obtain ⟨y, sl, o, out, last, rfl, hlast, hcnt, hacc, hit, hne, hup, hol⟩ := hst
    refine ⟨(.ex0 y, hL sl), ?_, y, sl, o, out, rfl, hacc, upto_end hup (fun c hc => count_full hcnt _ (idL_mem hc)), by omega⟩
    unfold spileref50_Adjust.loop2
    try simp -implicitDefEqProofs only [hit.len, hlen]
    rw [decide_eq_false (by omega), cond_false]
theorem acc_any (xs : List (LT IT)) : ∃ sl s o, Ev.Acc sl IT xs s o := by
  by_cases h : xs.length = 0
  · have : xs = [] := List.eq_nil_of_length_eq_zero h
    subst this
    exact ⟨[], nilSV, none, Acc.nil⟩
  · exact ⟨[.own (cellsL IT xs) 5], ownSV 0 IT xs.length, some 0, by omega, rfl, rfl⟩
theorem adj_len {a b : St} (ha : fitS a) (hb : fitS b) : (adjOf (idsOf a) (idsOf b)).length ≤ 128 := by
  obtain ⟨sl, s, o, h⟩ := acc_any (a.2.2.1.map itemOf ++ b.2.2.1.map itemOf)
  obtain ⟨x, hx, y, sl', o', out, -, hacc, hadj, hlen⟩ := outer_ok (a := a) (b := b) (fa := false) (fb := false) ha.1 hb.1 h
  rw [adjOf_dut ha.2 hb.2 hadj]
  exact hlen
open Classical in
theorem RAdjust_ok (a b : St) : spileref50_AdjustP a b = some (if fitS a ∧ fitS b then (if a.1 = b.1 ∧ a.2.1 = b.2.1 then (adjOf (idsOf a) (idsOf b), 0) else ([], 10)) else ([], 1)) := by
  obtain ⟨a0, a1, a2, a3⟩ := a
  obtain ⟨b0, b1, b2, b3⟩ := b
  unfold spileref50_AdjustP spileref50_Adjust
  try simp -implicitDefEqProofs only [hL_empty]
  rw [rd_lpS]
  try simp -implicitDefEqProofs only [Option.bind_some]
  rw [rdRow_args rfl, Option.bind_some, fits_ok]
  try simp -implicitDefEqProofs only [Option.bind_some]
  by_cases hfa : fitS (a0, a1, a2, a3)
  · rw [decide_eq_true hfa]
    try simp -implicitDefEqProofs only [Bool.not_true, Bool.not_false, cond_true]
    rw [rd_lpS]
    try simp -implicitDefEqProofs only [Option.bind_some]
    rw [rdRow_args rfl, Option.bind_some, fits_ok]
    try simp -implicitDefEqProofs only [Option.bind_some]
    by_cases hfb : fitS (b0, b1, b2, b3)
    · rw [decide_eq_true hfb, if_pos ⟨hfa, hfb⟩]
      try simp -implicitDefEqProofs only [Bool.not_true, cond_false]
      rw [rd_lp01.1, Option.bind_some, rd_lp01.1, Option.bind_some]
      by_cases h0 : a0 = b0
      · rw [decide_eq_true h0]
        try simp -implicitDefEqProofs only [Bool.not_true, Bool.not_false, cond_true]
        rw [rd_lp01.2, Option.bind_some, rd_lp01.2, Option.bind_some]
        by_cases h1 : a1 = b1
        · rw [decide_eq_true h1, if_pos ⟨h0, h1⟩]
          try simp -implicitDefEqProofs only [Bool.not_true, cond_false, Option.bind_some, reserve0]
          obtain ⟨s1, sl1, o1, p1, p2, p3, p4, p5, p6⟩ := Items_ok (B := []) (s := (a0, a1, a2, a3)) (f := false) (fault_good hfa.1).1
          rw [p1]
          try simp -implicitDefEqProofs only [Option.bind_some]
          obtain ⟨s2, sl2, o2, q1, q2, q3, q4, q5, q6⟩ := Items_ok (B := sl1) (s := (b0, b1, b2, b3)) (f := false) (fault_good hfb.1).1
          rw [q1]
          try simp -implicitDefEqProofs only [Option.bind_some]
          rw [Acc.cells q2 (w := 5) rfl (by omega)]
          try simp -implicitDefEqProofs only [Option.bind_some]
          have hacc1 : Ev.Acc sl2 IT (a2.map itemOf) s1 o1 := p2.frame fun id e => by subst e; exact q4 id p2.lt
          obtain ⟨s3, sl3, o3, r1, r2, r3⟩ := Acc.appendN hacc1 (ys := b2.map itemOf) (w := 5) (b := 40) rfl (by omega) (by
            have h1 := (fault_good hfa.1).1
            have h2 := (fault_good hfb.1).1
            simp only [List.length_map] at h1 h2 ⊢
            omega) (by omega) p6
          rw [r1]
          try simp -implicitDefEqProofs only [Option.bind_some]
          obtain ⟨x, hx, y, sl, o, out, rfl, hacc, hadj, _⟩ := outer_ok (a := (a0, a1, a2, a3)) (b := (b0, b1, b2, b3)) (fa := false) (fb := false) hfa.1 hfb.1 r2
          rw [hx]
          try simp -implicitDefEqProofs only [Option.bind_some]
          rw [adjOf_dut hfa.2 hfb.2 hadj]
          show (rdRow false (hL sl) PA y).bind _ = _
          rw [hacc.read rfl]
          rfl
        · rw [decide_eq_false h1, if_neg (fun h => h1 h.2)]
          rfl
      · rw [decide_eq_false h0, if_neg (fun h => h0 h.1)]
        rfl
    · rw [decide_eq_false hfb, if_neg (fun h => hfb h.2)]
      rfl
  · rw [decide_eq_false hfa, if_neg (fun h => hfa h.1)]
    rfl
end Go.Proofs.YtedhmdocimkldaaDoor
/- Settle and its reference. Conditions: few charges, numbers of 64 bits. -/
namespace Go.Proofs.YtedhmdocimkldaaDoor
open Go Go.Proofs.YtedhmdocimkldaaDoor.Ev
set_option linter.unusedVariables false
set_option linter.unusedSimpArgs false
set_option maxRecDepth 100000
set_option maxHeartbeats 4000000
abbrev cA (p : Int × Int) : Slot := .own [.int .i64 p.1, .int .i64 p.2] 2
def aq (xs : List (Int × Int)) (i : Nat) : Int × Int := (xs[i]?).getD (0, 0)
theorem aq_eq {xs : List (Int × Int)} {i : Nat} (h : i < xs.length) : xs[i]? = some (aq xs i) := by unfold aq; rw [List.getElem?_eq_getElem h]; rfl
theorem rds_aq {f : Bool} {h : H} {xs : List (Int × Int)} {i : Nat} (hi : i < xs.length) : rdT (.agg PA) h ((rowSV f PA xs).a.add (i * 2)) = some (aq xs i) := by
  rw [rds_rowF (ls := PA) (w := 2) rfl (by omega) rfl]; exact aq_eq hi
theorem rd_aq {f : Bool} {h : H} {xs : List (Int × Int)} {i : Nat} (hi : i < xs.length) :
    rdT (.leaf (.int .i64)) h ((rowSV f PA xs).a.add (i * 2 + 0)) = some (aq xs i).1 ∧ rdT (.leaf (.int .i64)) h ((rowSV f PA xs).a.add (i * 2 + 1)) = some (aq xs i).2 := by
  refine ⟨?_, ?_⟩ <;> (rw [rd_row (ls := PA) (w := 2) rfl (by omega), aq_eq hi]; rfl)
theorem nn_aq {f : Bool} {xs : List (Int × Int)} {n : Nat} (h : xs.length ≠ 0) : ((rowSV f PA xs).a.add n).nn = true := nn_row h (by decide)
theorem add_aq {f : Bool} {xs : List (Int × Int)} {n m : Nat} : V.add ((rowSV f PA xs).a.add n) m = (rowSV f PA xs).a.add (n + m) := add_add _ _ _
def okA (p : Int × Int) : Bool := decide (1 ≤ p.1 ∧ p.1 ≤ 1125899906842624) && decide (-1125899906842624 ≤ p.2 ∧ p.2 ≤ 1125899906842624)
theorem okA_iff {p : Int × Int} : okA p = true ↔ (1 ≤ p.1 ∧ p.1 ≤ 1125899906842624) ∧ -1125899906842624 ≤ p.2 ∧ p.2 ≤ 1125899906842624 := by simp [okA]
def sumD (xs : List (Int × Int)) : Int := (xs.map (·.2)).sum
theorem sumD_succ {xs : List (Int × Int)} {i : Nat} (h : i < xs.length) : sumD (xs.take (i + 1)) = sumD (xs.take i) + (aq xs i).2 := by
  unfold sumD
  rw [List.take_add_one, aq_eq h, List.map_append, List.sum_append]
  simp
theorem sumD_bound {xs : List (Int × Int)} (h : ∀ p ∈ xs, okA p = true) : -(xs.length * 1125899906842624 : Int) ≤ sumD xs ∧ sumD xs ≤ xs.length * 1125899906842624 := by
  induction xs with
  | nil => simp [sumD]
  | cons x xs ih =>
    have hx := okA_iff.1 (h x (by simp))
    have := ih fun p hp => h p (by simp [hp])
    have e : sumD (x :: xs) = x.2 + sumD xs := by simp [sumD]
    rw [e]
    simp only [List.length_cons]
    omega
/-- The place behind the first is not above it. -/
def downA (xs : List (Int × Int)) (i : Nat) : Bool := decide (0 < i ∧ (aq xs i).1 ≤ (aq xs (i - 1)).1)
def upA (xs : List (Int × Int)) : Bool := !(List.range xs.length).any (downA xs)
open Classical in
noncomputable def settleOf (s : St) (xs : List (Int × Int)) : Int × Int :=
  if fitS s then (if 128 < xs.length then (0, 8) else if xs.all okA = true then (if upA xs = true then (if 0 ≤ s.2.2.2 + sumD xs ∧ s.2.2.2 + sumD xs ≤ 1125899906842624 then (s.2.2.2 + sumD xs, 0) else (0, 15)) else (0, 5)) else (0, 2)) else (0, 1)
theorem bad_allA {xs : List (Int × Int)} {i : Nat} (h : i < xs.length) (hb : okA (aq xs i) = false) : xs.all okA = false := by
  cases hx : xs.all okA with
  | false => rfl
  | true => have := List.all_eq_true.1 hx _ (List.mem_of_getElem? (aq_eq h)); rw [hb] at this; cases this
theorem okA_to {xs : List (Int × Int)} {i : Nat} (h : i < xs.length) : ((xs.take (i + 1)).all okA) = ((xs.take i).all okA && okA (aq xs i)) := by
  rw [List.take_add_one, aq_eq h, List.all_append]
  simp
theorem take_bound {xs : List (Int × Int)} {i : Nat} (hi : i ≤ xs.length) (hl : xs.length ≤ 128) (h : (xs.take i).all okA = true) : -144115188075855872 ≤ sumD (xs.take i) ∧ sumD (xs.take i) ≤ 144115188075855872 := by
  have := sumD_bound (xs := xs.take i) fun p hp => List.all_eq_true.1 h p hp
  have e : (xs.take i).length = i := by rw [List.length_take]; omega
  rw [e] at this
  omega
theorem up_no {xs : List (Int × Int)} {i : Nat} (h : i < xs.length) (hd : downA xs i = true) : upA xs = false := by
  unfold upA
  have : (List.range xs.length).any (downA xs) = true := List.any_eq_true.2 ⟨i, List.mem_range.2 h, hd⟩
  rw [this]; rfl
theorem up_yes {xs : List (Int × Int)} (h : ∀ i, i < xs.length → downA xs i = false) : upA xs = true := by
  unfold upA
  have : (List.range xs.length).any (downA xs) = false := by
    rw [List.any_eq_false]
    intro i hi
    rw [h i (List.mem_range.1 hi)]; simp
  rw [this]; rfl
theorem settle_loop1 {xs : List (Int × Int)} {t : Int} (ht : 0 ≤ t ∧ t ≤ 1125899906842624) (hl : xs.length ≤ 128) {sl0 : List Slot} :
    ∃ x, iter FUEL (period_Settle.loop1 (rowSV false PA xs)) ((t, 0), hL sl0) = some x ∧ ∃ sl, (x = (.ret (0, 2), hL sl) ∧ xs.all okA = false) ∨ (x = (.ex0 (t + sumD xs), hL sl) ∧ xs.all okA = true) := by
  refine iter_early (f := period_Settle.loop1 (rowSV false PA xs)) (fun i st => ∃ sl, st = ((t + sumD (xs.take i), (i : Int)), hL sl) ∧ (xs.take i).all okA = true)
    (fun x => ∃ sl, (x = (.ret (0, 2), hL sl) ∧ xs.all okA = false) ∨ (x = (.ex0 (t + sumD xs), hL sl) ∧ xs.all okA = true)) xs.length (fun i st hi hst => ?_) (fun st hst => ?_) FUEL 0 _ (Nat.zero_le _) ⟨sl0, by simp [sumD], rfl⟩ (fuel_gt (by omega))
  · obtain ⟨sl, rfl, hall⟩ := hst
    have hb := take_bound (Nat.le_of_lt hi) hl hall
    have n1 : H.wrs (hL (sl ++ [.own [.int .i64 0, .int .i64 0] 2])) (.hp sl.length 2 0) [.int .i64 (aq xs i).1, .int .i64 (aq xs i).2] = some (hL (sl ++ [cA (aq xs i)])) := by
      rw [wrs_own (g := 2) (cs := [.int .i64 0, .int .i64 0]) (e := 2) (by simp) rfl (by simp)]
      simp [splice]
    have r1 : rdT (.leaf (.int .i64)) (hL (sl ++ [cA (aq xs i)])) (.hp sl.length 2 0) = some (aq xs i).1 := by rw [rd_own (g := 2) (cs := [.int .i64 (aq xs i).1, .int .i64 (aq xs i).2]) (e := 2) (by simp) rfl]; rfl
    have r2 : rdT (.leaf (.int .i64)) (hL (sl ++ [cA (aq xs i)])) (.hp sl.length 2 1) = some (aq xs i).2 := by rw [rd_own (g := 2) (cs := [.int .i64 (aq xs i).1, .int .i64 (aq xs i).2]) (e := 2) (by simp) rfl]; rfl
    unfold period_Settle.loop1
    try simp -implicitDefEqProofs only [rowSV_len, Int.toNat_natCast]
    rw [decide_eq_true (show (i : Int) < (xs.length : Int) by omega), cond_true, guardO_pos (by omega), rds_aq hi]
    try simp -implicitDefEqProofs only [Option.bind_some, hL_new, hL_next]
    rw [n1]
    try simp -implicitDefEqProofs only [Option.bind_some]
    rw [r1]
    try simp -implicitDefEqProofs only [Option.bind_some, within_ok]
    by_cases c1 : 1 ≤ (aq xs i).1 ∧ (aq xs i).1 ≤ 1125899906842624
    · rw [decide_eq_true c1]
      try simp -implicitDefEqProofs only [Bool.not_true, Bool.not_false, cond_true]
      rw [r2]
      try simp -implicitDefEqProofs only [Option.bind_some]
      by_cases c2 : -1125899906842624 ≤ (aq xs i).2 ∧ (aq xs i).2 ≤ 1125899906842624
      · left
        rw [decide_eq_true c2]
        try simp -implicitDefEqProofs only [Bool.not_true, cond_false]
        rw [r2]
        try simp -implicitDefEqProofs only [Option.bind_some]
        rw [i64_in (t + sumD (xs.take i) + (aq xs i).2) (by omega), i64_succ (by omega)]
        exact ⟨_, rfl, _, by rw [sumD_succ hi, Int.add_assoc], by rw [okA_to hi, hall, okA_iff.2 ⟨c1, c2⟩]; rfl⟩
      · right
        rw [decide_eq_false c2]
        exact ⟨_, rfl, _, .inl ⟨rfl, bad_allA hi (by cases h : okA (aq xs i) with | false => rfl | true => exact absurd (okA_iff.1 h).2 c2)⟩⟩
    · right
      rw [decide_eq_false c1]
      exact ⟨_, rfl, _, .inl ⟨rfl, bad_allA hi (by cases h : okA (aq xs i) with | false => rfl | true => exact absurd (okA_iff.1 h).1 c1)⟩⟩
  · obtain ⟨sl, rfl, hall⟩ := hst
    rw [List.take_length] at hall ⊢
    refine ⟨_, ?_, sl, .inr ⟨rfl, hall⟩⟩
    unfold period_Settle.loop1
    try simp -implicitDefEqProofs only [rowSV_len]
    rw [decide_eq_false (by omega), cond_false]
end Go.Proofs.YtedhmdocimkldaaDoor
/- Settle and its reference. Conditions: few charges, numbers of 64 bits. -/
namespace Go.Proofs.YtedhmdocimkldaaDoor
open Go Go.Proofs.YtedhmdocimkldaaDoor.Ev
set_option linter.unusedVariables false
set_option linter.unusedSimpArgs false
set_option maxRecDepth 100000
set_option maxHeartbeats 4000000
theorem settle_loop2 {xs : List (Int × Int)} (hl : xs.length ≤ 128) {h : H} :
    ∃ x, iter FUEL (period_Settle.loop2 (rowSV false PA xs)) (1, h) = some x ∧ ((x = (.ret (0, 5), h) ∧ upA xs = false) ∨ (x = (.ex0 (), h) ∧ upA xs = true)) := by
  refine iter_early (f := period_Settle.loop2 (rowSV false PA xs)) (fun i st => st = (((i + 1 : Nat) : Int), h) ∧ ∀ j, j ≤ i → j < xs.length → downA xs j = false)
    (fun x => (x = (.ret (0, 5), h) ∧ upA xs = false) ∨ (x = (.ex0 (), h) ∧ upA xs = true)) (xs.length - 1) (fun i st hi hst => ?_) (fun st hst => ?_) FUEL 0 _ (Nat.zero_le _) ⟨rfl, fun j hj _ => ?_⟩ (fuel_gt (by omega))
  · obtain ⟨rfl, hd⟩ := hst
    have hw : IntKind.i64.wrap (((i + 1 : Nat) : Int) - 1) = (i : Int) := by rw [show ((i + 1 : Nat) : Int) - 1 = (i : Int) by omega, i64_nat (by omega)]
    have hdef : downA xs (i + 1) = decide ((aq xs (i + 1)).1 ≤ (aq xs i).1) := by
      unfold downA
      simp only [Nat.add_sub_cancel]
      by_cases h : (aq xs (i + 1)).1 ≤ (aq xs i).1
      · rw [decide_eq_true h, decide_eq_true (p := _ ∧ _) ⟨by omega, h⟩]
      · rw [decide_eq_false h, decide_eq_false (p := _ ∧ _) (fun e => h e.2)]
    unfold period_Settle.loop2
    try simp -implicitDefEqProofs only [rowSV_len, reserve0]
    rw [decide_eq_true (show ((i + 1 : Nat) : Int) < (xs.length : Int) by omega), cond_true, hw]
    try simp -implicitDefEqProofs only [Int.toNat_natCast]
    rw [guardO_pos (show 0 ≤ ((i + 1 : Nat) : Int) ∧ ((i + 1 : Nat) : Int) < (xs.length : Int) by omega), guardO_pos (nn_aq (by omega)), add_aq, (rd_aq (by omega)).1]
    try simp -implicitDefEqProofs only [Option.bind_some]
    rw [guardO_pos (show 0 ≤ (i : Int) ∧ (i : Int) < (xs.length : Int) by omega), guardO_pos (nn_aq (by omega)), add_aq, (rd_aq (by omega)).1]
    try simp -implicitDefEqProofs only [Option.bind_some]
    rw [← hdef]
    cases hx : downA xs (i + 1) with
    | true =>
      right
      exact ⟨_, rfl, .inl ⟨rfl, up_no (by omega) hx⟩⟩
    | false =>
      left
      rw [cond_false, i64_succ (by omega)]
      refine ⟨_, rfl, rfl, fun j hj hjl => ?_⟩
      rcases Nat.lt_or_ge j (i + 1) with h | h
      · exact hd j (by omega) hjl
      · have : j = i + 1 := by omega
        subst this; exact hx
  · obtain ⟨rfl, hd⟩ := hst
    refine ⟨(.ex0 (), h), ?_, .inr ⟨rfl, up_yes fun i hi => hd i (by omega) hi⟩⟩
    unfold period_Settle.loop2
    try simp -implicitDefEqProofs only [rowSV_len]
    rw [decide_eq_false (by omega), cond_false]
  · have : j = 0 := by omega
    subst this
    unfold downA
    exact decide_eq_false (fun e => absurd e.1 (Nat.lt_irrefl 0))
open Classical in
theorem Settle_ok {s : St} (hi : inS s) (xs : List (Int × Int)) : period_SettleP s xs = some (settleOf s xs) := by
  obtain ⟨a, b, cs, t⟩ := s
  have rs := rd_cS (sl := [cS (a, b, rowSV false CH cs, t)]) (id := 0) (s := (a, b, rowSV false CH cs, t)) rfl
  have ra : rdT (.agg [.int .i64, .int .i64, .slice, .int .i64]) (hL [cS (a, b, rowSV false CH cs, t)]) (.hp 0 4 0) = some (a, b, rowSV false CH cs, t) := by
    rw [rds_hp (by simp), hL_m]
    rfl
  unfold period_SettleP period_Settle settleOf
  try simp -implicitDefEqProofs only [hL_empty, hL_new, hL_next, List.nil_append, List.length_nil]
  simp only [cS] at ra rs
  rw [ra]
  try simp -implicitDefEqProofs only [Option.bind_some]
  rw [rdRow_args rfl, Option.bind_some, duties_ok hi]
  try simp -implicitDefEqProofs only [Option.bind_some]
  by_cases hf : fitS (a, b, cs, t)
  · rw [decide_eq_true hf, if_pos hf]
    try simp -implicitDefEqProofs only [Bool.not_true, cond_false]
    have hg := (fault_good hf.1).2 t (by simp [numsS])
    by_cases h1 : 128 < xs.length
    · rw [decide_eq_true (show (128 : Int) < (((rowSV false PA xs).len : Nat) : Int) by rw [rowSV_len]; omega), if_pos h1]
      rfl
    · rw [decide_eq_false (show ¬ (128 : Int) < (((rowSV false PA xs).len : Nat) : Int) by rw [rowSV_len]; omega), if_neg h1, cond_false, rs.2.2.2]
      try simp -implicitDefEqProofs only [Option.bind_some]
      obtain ⟨x, hx, sl, hp⟩ := settle_loop1 (xs := xs) hg (by omega) (sl0 := [cS (a, b, rowSV false CH cs, t)])
      simp only [cS] at hx
      rw [hx]
      rcases hp with ⟨rfl, hb⟩ | ⟨rfl, hall⟩
      · rw [if_neg (by rw [hb]; simp)]
        rfl
      · rw [if_pos hall]
        try simp -implicitDefEqProofs only [Option.bind_some]
        obtain ⟨x2, hx2, hp2⟩ := settle_loop2 (xs := xs) (by omega) (h := hL sl)
        rw [hx2]
        rcases hp2 with ⟨rfl, hb⟩ | ⟨rfl, hup⟩
        · rw [if_neg (by rw [hb]; simp)]
          rfl
        · rw [if_pos hup]
          try simp -implicitDefEqProofs only [Option.bind_some, within_ok]
          by_cases hr : 0 ≤ t + sumD xs ∧ t + sumD xs ≤ 1125899906842624
          · rw [decide_eq_true hr, if_pos hr]; rfl
          · rw [decide_eq_false hr, if_neg hr]; rfl
  · rw [decide_eq_false hf, if_neg hf]
    rfl
theorem rsettle_loop1 {xs : List (Int × Int)} (hl : xs.length ≤ 128) {h : H} : iter FUEL (spileref50_Settle.loop1 (rowSV false PA xs)) (0, h) = some (if xs.all okA = true then (.ex0 (), h) else (.ret (0, 2), h)) := by
  rw [iter_find xs (fun x => !okA x) (fun _ => ((0, 2) : Int × Int)) (by omega) (fun i x hx => by
    obtain ⟨hlt, hx'⟩ := List.getElem?_eq_some_iff.1 hx
    have hq : aq xs i = x := by unfold aq; rw [hx]; rfl
    unfold spileref50_Settle.loop1
    try simp -implicitDefEqProofs only [rowSV_len, Int.toNat_natCast]
    rw [decide_eq_true (by omega), cond_true, guardO_pos (by omega), guardO_pos (nn_aq (by omega)), add_aq, (rd_aq hlt).1, hq]
    try simp -implicitDefEqProofs only [Option.bind_some, Between_ok]
    rw [i64_succ (by omega)]
    unfold okA
    cases decide (1 ≤ x.1 ∧ x.1 ≤ 1125899906842624) with
    | false => rfl
    | true =>
      try simp -implicitDefEqProofs only [Bool.not_true, Bool.not_false, cond_true, Bool.true_and]
      rw [guardO_pos (by omega), guardO_pos (nn_aq (by omega)), add_aq, (rd_aq hlt).2, hq]
      try simp -implicitDefEqProofs only [Option.bind_some]
      cases decide (-1125899906842624 ≤ x.2 ∧ x.2 ≤ 1125899906842624) <;> rfl) (by
    unfold spileref50_Settle.loop1
    try simp -implicitDefEqProofs only [rowSV_len]
    rw [decide_eq_false (by omega), cond_false])]
  have := all_find okA xs
  cases hf : xs.findIdx? fun x => !okA x with
  | none => rw [hf] at this; rw [if_pos (by simpa using this)]
  | some m => rw [hf] at this; rw [if_neg (by rw [this]; simp)]
theorem rsettle_loop2 {xs : List (Int × Int)} {t : Int} (ht : 0 ≤ t ∧ t ≤ 1125899906842624) (hl : xs.length ≤ 128) (hall : xs.all okA = true) {h : H} :
    ∃ x, iter FUEL (spileref50_Settle.loop2 (rowSV false PA xs)) ((t, 0), h) = some x ∧ ((x = (.ret (0, 5), h) ∧ upA xs = false) ∨ (x = (.ex0 (t + sumD xs), h) ∧ upA xs = true)) := by
  refine iter_early (f := spileref50_Settle.loop2 (rowSV false PA xs)) (fun i st => st = ((t + sumD (xs.take i), (i : Int)), h) ∧ ∀ j, j < i → j < xs.length → downA xs j = false)
    (fun x => (x = (.ret (0, 5), h) ∧ upA xs = false) ∨ (x = (.ex0 (t + sumD xs), h) ∧ upA xs = true)) xs.length (fun i st hi hst => ?_) (fun st hst => ?_) FUEL 0 _ (Nat.zero_le _) ⟨by simp [sumD], fun j hj _ => absurd hj (Nat.not_lt_zero j)⟩ (fuel_gt (by omega))
  · obtain ⟨rfl, hd⟩ := hst
    have htk : (xs.take i).all okA = true := List.all_eq_true.2 fun p hp => List.all_eq_true.1 hall p (List.mem_of_mem_take hp)
    have htk2 : (xs.take (i + 1)).all okA = true := List.all_eq_true.2 fun p hp => List.all_eq_true.1 hall p (List.mem_of_mem_take hp)
    have hb := take_bound (i := i + 1) hi hl htk2
    have hs := sumD_succ hi
    have tail : downA xs i = false → ∃ s', (guardO (0 ≤ (i : Int) ∧ (i : Int) < (xs.length : Int)) (guardO (V.nn ((V.add (rowSV false PA xs).a (i * 2)) : V) = true) ((rdT (.leaf (.int .i64)) h (V.add (V.add (rowSV false PA xs).a (i * 2)) 1)).bind fun x25 => (some (Stp.more (((IntKind.wrap .i64 (t + sumD (xs.take i) + x25)), (IntKind.wrap .i64 ((i : Int) + 1))), h)) : Option (Stp ((Int × Int) × H) (Flow (Int) (Int × Int) × H)))))) = some (.more s') ∧ (s' = ((t + sumD (xs.take (i + 1)), ((i + 1 : Nat) : Int)), h) ∧ ∀ j, j < i + 1 → j < xs.length → downA xs j = false) := fun hx => by
      rw [guardO_pos (by omega), guardO_pos (nn_aq (by omega)), add_aq, (rd_aq hi).2, Option.bind_some, i64_in (t + sumD (xs.take i) + (aq xs i).2) (by omega), i64_succ (by omega)]
      refine ⟨_, rfl, by rw [hs, Int.add_assoc], fun j hj hjl => ?_⟩
      rcases Nat.lt_or_ge j i with h | h
      · exact hd j h hjl
      · have : j = i := by omega
        subst this; exact hx
    cases i with
    | zero =>
      left
      have hx : downA xs 0 = false := by
        unfold downA
        exact decide_eq_false (fun e => absurd e.1 (Nat.lt_irrefl 0))
      obtain ⟨s', h1, h2⟩ := tail hx
      refine ⟨s', ?_, h2⟩
      rw [← h1]
      unfold spileref50_Settle.loop2
      try simp -implicitDefEqProofs only [rowSV_len, reserve0]
      rw [decide_eq_true (show ((0 : Nat) : Int) < (xs.length : Int) by omega), cond_true, decide_eq_false (show ¬ (0 : Int) < ((0 : Nat) : Int) by omega)]
      rfl
    | succ k =>
      have hw : IntKind.i64.wrap (((k + 1 : Nat) : Int) - 1) = (k : Int) := by rw [show ((k + 1 : Nat) : Int) - 1 = (k : Int) by omega, i64_nat (by omega)]
      have hdef : downA xs (k + 1) = decide ((aq xs (k + 1)).1 ≤ (aq xs k).1) := by
        unfold downA
        simp only [Nat.add_sub_cancel]
        by_cases h : (aq xs (k + 1)).1 ≤ (aq xs k).1
        · rw [decide_eq_true h, decide_eq_true (p := _ ∧ _) ⟨by omega, h⟩]
        · rw [decide_eq_false h, decide_eq_false (p := _ ∧ _) (fun e => h e.2)]
      have hround : spileref50_Settle.loop2 (rowSV false PA xs) ((t + sumD (xs.take (k + 1)), ((k + 1 : Nat) : Int)), h) = (bif downA xs (k + 1) then some (.done (.ret (0, 5), h)) else (guardO (0 ≤ ((k + 1 : Nat) : Int) ∧ ((k + 1 : Nat) : Int) < (xs.length : Int)) (guardO (V.nn ((V.add (rowSV false PA xs).a ((k + 1) * 2)) : V) = true) ((rdT (.leaf (.int .i64)) h (V.add (V.add (rowSV false PA xs).a ((k + 1) * 2)) 1)).bind fun x25 => (some (Stp.more (((IntKind.wrap .i64 (t + sumD (xs.take (k + 1)) + x25)), (IntKind.wrap .i64 (((k + 1 : Nat) : Int) + 1))), h)) : Option (Stp ((Int × Int) × H) (Flow (Int) (Int × Int) × H))))))) := by
        unfold spileref50_Settle.loop2
        try simp -implicitDefEqProofs only [rowSV_len, reserve0]
        rw [decide_eq_true (show ((k + 1 : Nat) : Int) < (xs.length : Int) by omega), cond_true, decide_eq_true (show (0 : Int) < ((k + 1 : Nat) : Int) by omega), cond_true, hw]
        try simp -implicitDefEqProofs only [Int.toNat_natCast]
        rw [guardO_pos (show 0 ≤ ((k + 1 : Nat) : Int) ∧ ((k + 1 : Nat) : Int) < (xs.length : Int) by omega), guardO_pos (nn_aq (by omega)), add_aq, (rd_aq (by omega)).1]
        try simp -implicitDefEqProofs only [Option.bind_some]
        rw [guardO_pos (show 0 ≤ (k : Int) ∧ (k : Int) < (xs.length : Int) by omega), guardO_pos (nn_aq (by omega)), add_aq, (rd_aq (by omega)).1]
        try simp -implicitDefEqProofs only [Option.bind_some]
        rw [← hdef, add_aq]
      rw [hround]
      cases hx : downA xs (k + 1) with
      | true => exact .inr ⟨_, rfl, .inl ⟨rfl, up_no hi hx⟩⟩
      | false => exact .inl (tail hx)
  · obtain ⟨rfl, hd⟩ := hst
    rw [List.take_length]
    refine ⟨_, ?_, .inr ⟨rfl, up_yes fun i hi => hd i hi hi⟩⟩
    unfold spileref50_Settle.loop2
    try simp -implicitDefEqProofs only [rowSV_len]
    rw [decide_eq_false (by omega), cond_false]
open Classical in
theorem RSettle_ok (s : St) (xs : List (Int × Int)) : spileref50_SettleP s xs = some (settleOf s xs) := by
  obtain ⟨a, b, cs, t⟩ := s
  have rs := rd_cS (sl := [cS (a, b, rowSV false CH cs, t)]) (id := 0) (s := (a, b, rowSV false CH cs, t)) rfl
  have ra : rdT (.agg [.int .i64, .int .i64, .slice, .int .i64]) (hL [cS (a, b, rowSV false CH cs, t)]) (.hp 0 4 0) = some (a, b, rowSV false CH cs, t) := by
    rw [rds_hp (by simp), hL_m]
    rfl
  unfold spileref50_SettleP spileref50_Settle settleOf
  try simp -implicitDefEqProofs only [hL_empty, hL_new, hL_next, List.nil_append, List.length_nil]
  simp only [cS] at ra rs
  rw [ra]
  try simp -implicitDefEqProofs only [Option.bind_some]
  rw [rdRow_args rfl, Option.bind_some, fits_ok]
  try simp -implicitDefEqProofs only [Option.bind_some]
  by_cases hf : fitS (a, b, cs, t)
  · rw [decide_eq_true hf, if_pos hf]
    try simp -implicitDefEqProofs only [Bool.not_true, cond_false]
    have hg := (fault_good hf.1).2 t (by simp [numsS])
    by_cases h1 : 128 < xs.length
    · rw [decide_eq_true (show (128 : Int) < (((rowSV false PA xs).len : Nat) : Int) by rw [rowSV_len]; omega), if_pos h1]
      rfl
    · rw [decide_eq_false (show ¬ (128 : Int) < (((rowSV false PA xs).len : Nat) : Int) by rw [rowSV_len]; omega), if_neg h1, cond_false, rs.2.2.2]
      try simp -implicitDefEqProofs only [Option.bind_some]
      rw [rsettle_loop1 (by omega)]
      cases hall : xs.all okA with
      | false =>
        rw [if_neg (by simp), if_neg (by simp)]
        rfl
      | true =>
        rw [if_pos rfl, if_pos rfl]
        try simp -implicitDefEqProofs only [Option.bind_some]
        obtain ⟨x2, hx2, hp2⟩ := rsettle_loop2 (xs := xs) hg (by omega) hall (h := hL [cS (a, b, rowSV false CH cs, t)])
        simp only [cS] at hx2 hp2
        rw [hx2]
        rcases hp2 with ⟨rfl, hb⟩ | ⟨rfl, hup⟩
        · rw [if_neg (by rw [hb]; simp)]
          rfl
        · rw [if_pos hup]
          try simp -implicitDefEqProofs only [Option.bind_some]
          by_cases hr : 0 ≤ t + sumD xs ∧ t + sumD xs ≤ 1125899906842624
          · rw [if_pos hr, decide_eq_false (show ¬ t + sumD xs < 0 by omega), decide_eq_false (show ¬ (1125899906842624 : Int) < t + sumD xs by omega)]; rfl
          · rw [if_neg hr]
            by_cases h0 : t + sumD xs < 0
            · rw [decide_eq_true h0]; rfl
            · rw [decide_eq_false h0, decide_eq_true (show (1125899906842624 : Int) < t + sumD xs by omega)]; rfl
  · rw [decide_eq_false hf, if_neg hf]
    rfl
end Go.Proofs.YtedhmdocimkldaaDoor
/- A copy of a statement, the statements of the chapter, and the examples. Conditions: none. -/
namespace Go.Proofs.YtedhmdocimkldaaDoor
open Go Go.Proofs.YtedhmdocimkldaaDoor.Ev
set_option linter.unusedVariables false
set_option linter.unusedSimpArgs false
set_option maxRecDepth 100000
set_option maxHeartbeats 4000000
theorem cp_ok {s : St} (hl : s.2.2.1.length ≤ 2 ^ 36) : spilelaw50_cpP s = some s := by
  obtain ⟨a, b, cs, t⟩ := s
  have e0 : ([cS (a, b, rowSV false CH cs, t), cS (0, 0, nilSV, 0)] : List Slot)[0]? = some (cS (a, b, rowSV false CH cs, t)) := rfl
  have r0 := (rd_cS e0).2.2.1
  have w0 : H.wrs (hL [cS (a, b, rowSV false CH cs, t), cS (0, 0, nilSV, 0)]) (.hp 0 4 2) [.slice ((rowSV true CH cs).a) cs.length cs.length true] = some (hL [cS (a, b, rowSV true CH cs, t), cS (0, 0, nilSV, 0)]) := by
    rw [wrs_own (g := 4) e0 rfl (by simp)]
    rfl
  have q0 : rdT (.agg [.int .i64, .int .i64, .slice, .int .i64]) (hL [cS (a, b, rowSV true CH cs, t), cS (0, 0, nilSV, 0)]) (.hp 0 4 0) = some (a, b, rowSV true CH cs, t) := by
    rw [rds_hp (by simp), hL_m]; rfl
  have w1 : H.wrs (hL [cS (a, b, rowSV true CH cs, t), cS (0, 0, nilSV, 0)]) (.hp 1 4 0) [.int .i64 a, .int .i64 b, .slice (rowSV true CH cs).a (rowSV true CH cs).len (rowSV true CH cs).cap (rowSV true CH cs).tail, .int .i64 t] = some (hL [cS (a, b, rowSV true CH cs, t), cS (a, b, rowSV true CH cs, t)]) := by
    rw [wrs_own (g := 4) (cs := [.int .i64 0, .int .i64 0, .slice nilSV.a nilSV.len nilSV.cap nilSV.tail, .int .i64 0]) (e := 4) rfl rfl (by simp)]
    rfl
  have q1 : rdT (.agg [.int .i64, .int .i64, .slice, .int .i64]) (hL [cS (a, b, rowSV true CH cs, t), cS (a, b, rowSV true CH cs, t)]) (.hp 1 4 0) = some (a, b, rowSV true CH cs, t) := by
    rw [rds_hp (by simp), hL_m]; rfl
  unfold spilelaw50_cpP spilelaw50_cp
  try simp -implicitDefEqProofs only [hL_empty, hL_new, hL_next, List.nil_append, List.length_nil, List.cons_append, List.length_cons, Nat.zero_add]
  simp only [cS, nilSV] at r0 w0 q0 w1 q1
  rw [r0]
  try simp -implicitDefEqProofs only [Option.bind_some]
  rw [rdRow_args rfl, Option.bind_some, clone_len hl (by omega), Option.bind_some, w0]
  try simp -implicitDefEqProofs only [Option.bind_some]
  rw [q0]
  try simp -implicitDefEqProofs only [Option.bind_some]
  rw [w1]
  try simp -implicitDefEqProofs only [Option.bind_some]
  rw [q1]
  try simp -implicitDefEqProofs only [Option.bind_some]
  try simp -implicitDefEqProofs only [evs, reduceIte, rdRes, rdTT, rdTy, rdLT, Res.un, TT.un, Ty.un, LT.un, Leaf.un, Leaf.plain, LT.plain]
  have hread : ∀ h, rdRow false h CH ⟨(rowSV true CH cs).a, cs.length, cs.length, true⟩ = some cs := fun h => rdRow_res (lp := false) (ls := CH) (xs := cs) rfl
  rw [hread]
  rfl
def twoA : St := (0, 9, [(1, 1, 0, 0, 0, 0, 0, 5), (2, 1, 0, 0, 0, 0, 0, 7)], 12)
def twoB : St := (0, 9, [(2, 1, 0, 0, 0, 0, 0, 9), (3, 1, 0, 0, 0, 0, 0, 1)], 10)
theorem two_ok : spilelaw50_twoP = some (twoA, twoB) := by kernel_rfl
theorem plan_ex : planOf 10 30 3 15 = ([(10, 39, 54, false), (40, 69, 84, false), (70, 99, 114, false)], 0) := by decide
theorem adj_ex : adjOf (idsOf twoA) (idsOf twoB) = [(1, -5), (2, 2), (3, 1)] := by
  refine adjOf_dut (by decide) (by decide) ⟨fun p => ?_, by decide⟩
  have hd : ∀ k : Int, dut (idsOf twoB) k - dut (idsOf twoA) k = if k = 1 then -5 else if k = 2 then 2 else if k = 3 then 1 else 0 := fun k => by
    by_cases h1 : k = 1
    · subst h1; decide
    by_cases h2 : k = 2
    · subst h2; decide
    by_cases h3 : k = 3
    · subst h3; decide
    rw [if_neg h1, if_neg h2, if_neg h3, dut_none (by simp [idsOf, twoB]; omega), dut_none (by simp [idsOf, twoA]; omega)]
    rfl
  rw [hd]
  obtain ⟨k, n⟩ := p
  simp only [List.mem_cons, Prod.mk.injEq, List.not_mem_nil, or_false]
  split
  · omega
  · split
    · omega
    · split <;> omega
end Go.Proofs.YtedhmdocimkldaaDoor
/- The examples of the chapter. Conditions: none. -/
namespace Go.Proofs.YtedhmdocimkldaaDoor
open Go Go.Proofs.YtedhmdocimkldaaDoor.Ev
set_option linter.unusedVariables false
set_option linter.unusedSimpArgs false
set_option maxRecDepth 100000
set_option maxHeartbeats 4000000
abbrev exL : List Per := [(10, 39, 54, false), (40, 69, 84, false), (70, 99, 114, false)]
abbrev exM : List Per := [(10, 39, 54, true), (40, 69, 84, false), (70, 99, 114, false)]
abbrev exA : List (Int × Int) := [(1, -5), (2, 2), (3, 1)]
theorem close_ex : closeOf exL = (exM, 0) := by decide
theorem charged_ex : chargedOf exM 20 = (1, 0) := by decide
theorem of_ex : pofOf exM 20 = (0, 0) := by decide
theorem check_ex : pcheckOf exM = (-1, 0) := by decide
theorem inS_A : inS twoA := ⟨by decide, fun c hc => by
  simp only [twoA, List.mem_cons, List.not_mem_nil, or_false] at hc
  rcases hc with rfl | rfl <;> simp [Pa.I64]⟩
theorem inS_B : inS twoB := ⟨by decide, fun c hc => by
  simp only [twoB, List.mem_cons, List.not_mem_nil, or_false] at hc
  rcases hc with rfl | rfl <;> simp [Pa.I64]⟩
theorem fitS_A : fitS twoA := by unfold fitS; decide
theorem fitS_B : fitS twoB := by unfold fitS; decide
theorem padj_ex : period_AdjustP twoA twoB = some (exA, 0) := by
  rw [PAdjust_ok inS_A inS_B, if_pos ⟨fitS_A, fitS_B⟩, if_pos (by decide), adj_ex]
theorem settle_ex : period_SettleP twoA exA = some (10, 0) := by
  rw [Settle_ok inS_A]
  unfold settleOf
  rw [if_pos fitS_A, if_neg (by decide), if_pos (by decide), if_pos (by decide), if_pos (by decide)]
  rfl
theorem eq_ex : slices_Equal_api_Period_api_PeriodP exL exL = some true := by rw [EqualP_ok _ _ (by decide)]; rfl
theorem eqA_ex : slices_Equal_api_Adjustment_api_AdjustmentP exA exA = some true := by rw [EqualA_ok _ _ (by decide)]; rfl
theorem row_exL {h : H} : rdRow true h PE ⟨.lp true ([.int .i64 10, .int .i64 39, .int .i64 54, .bool false, .int .i64 40, .int .i64 69, .int .i64 84, .bool false, .int .i64 70, .int .i64 99, .int .i64 114, .bool false]) 0, 3, 3, false⟩ = some exL := rfl
theorem row_exA {h : H} : rdRow true h PA ⟨.lp true ([.int .i64 1, .int .i64 (-5), .int .i64 2, .int .i64 2, .int .i64 3, .int .i64 1]) 0, 3, 3, false⟩ = some exA := rfl
theorem awake50 : spilelaw50_awakeP = some true := by
  have c1 : cloneP 32 exL = some exL := clone_len (by decide) (by decide)
  have c2 : cloneP 32 exM = some exM := clone_len (by decide) (by decide)
  have c3 : cloneP 16 exA = some exA := clone_len (by decide) (by decide)
  have rA : ∀ h, rdRow true h CH (rowSV true CH twoA.2.2.1) = some twoA.2.2.1 := fun h => rdRow_res rfl
  have rB : ∀ h, rdRow true h CH (rowSV true CH twoB.2.2.1) = some twoB.2.2.1 := fun h => rdRow_res rfl
  have cpA : spilelaw50_cpP (twoA.1, twoA.2.1, twoA.2.2.1, twoA.2.2.2) = some twoA := cp_ok (by decide)
  have cpB : spilelaw50_cpP (twoB.1, twoB.2.1, twoB.2.2.1, twoB.2.2.2) = some twoB := cp_ok (by decide)
  have e0 : ([cS (twoA.1, twoA.2.1, rowSV true CH twoA.2.2.1, twoA.2.2.2), cS (twoB.1, twoB.2.1, rowSV true CH twoB.2.2.1, twoB.2.2.2)] : List Slot)[0]? = some (cS (twoA.1, twoA.2.1, rowSV true CH twoA.2.2.1, twoA.2.2.2)) := rfl
  have w0 : H.wrs (hL [cS (0, 0, nilSV, 0), cS (0, 0, nilSV, 0)]) (.hp 0 4 0) [.int .i64 twoA.1, .int .i64 twoA.2.1, .slice ((rowSV true CH twoA.2.2.1).a) twoA.2.2.1.length twoA.2.2.1.length true, .int .i64 twoA.2.2.2] = some (hL [cS (twoA.1, twoA.2.1, rowSV true CH twoA.2.2.1, twoA.2.2.2), cS (0, 0, nilSV, 0)]) := by
    rw [wrs_own (g := 4) (cs := [.int .i64 0, .int .i64 0, .slice nilSV.a nilSV.len nilSV.cap nilSV.tail, .int .i64 0]) (e := 4) rfl rfl (by simp)]
    rfl
  have w1 : H.wrs (hL [cS (twoA.1, twoA.2.1, rowSV true CH twoA.2.2.1, twoA.2.2.2), cS (0, 0, nilSV, 0)]) (.hp 1 4 0) [.int .i64 twoB.1, .int .i64 twoB.2.1, .slice ((rowSV true CH twoB.2.2.1).a) twoB.2.2.1.length twoB.2.2.1.length true, .int .i64 twoB.2.2.2] = some (hL [cS (twoA.1, twoA.2.1, rowSV true CH twoA.2.2.1, twoA.2.2.2), cS (twoB.1, twoB.2.1, rowSV true CH twoB.2.2.1, twoB.2.2.2)]) := by
    rw [wrs_own (g := 4) (cs := [.int .i64 0, .int .i64 0, .slice nilSV.a nilSV.len nilSV.cap nilSV.tail, .int .i64 0]) (e := 4) rfl rfl (by simp)]
    rfl
  have q0 : rdT (.agg [.int .i64, .int .i64, .slice, .int .i64]) (hL [cS (twoA.1, twoA.2.1, rowSV true CH twoA.2.2.1, twoA.2.2.2), cS (twoB.1, twoB.2.1, rowSV true CH twoB.2.2.1, twoB.2.2.2)]) (.hp 0 4 0) = some (twoA.1, twoA.2.1, rowSV true CH twoA.2.2.1, twoA.2.2.2) := by
    rw [rds_hp (by simp), hL_m]; rfl
  have q1 : rdT (.agg [.int .i64, .int .i64, .slice, .int .i64]) (hL [cS (twoA.1, twoA.2.1, rowSV true CH twoA.2.2.1, twoA.2.2.2), cS (twoB.1, twoB.2.1, rowSV true CH twoB.2.2.1, twoB.2.2.2)]) (.hp 1 4 0) = some (twoB.1, twoB.2.1, rowSV true CH twoB.2.2.1, twoB.2.2.2) := by
    rw [rds_hp (by simp), hL_m]; rfl
  have eqA : ∀ (x : St), (x.1, x.2.1, x.2.2.1, x.2.2.2) = x := fun x => rfl
  simp only [cS, nilSV] at w0 w1 q0 q1
  unfold spilelaw50_awakeP spilelaw50_awake
  rw [Plan_ok, plan_ex]
  try simp -implicitDefEqProofs only [Option.bind_some, decide_true, Bool.not_true, Bool.not_false, cond_true, cond_false]
  rw [rdRow_res rfl, Option.bind_some, row_exL, Option.bind_some, eq_ex]
  try simp -implicitDefEqProofs only [Option.bind_some, Bool.not_true, cond_false]
  rw [rdRow_res rfl, Option.bind_some, c1, Option.bind_some, rdRow_res rfl, Option.bind_some, Close_ok, close_ex]
  try simp -implicitDefEqProofs only [Option.bind_some]
  rw [rdRow_res rfl, Option.bind_some, c2, Option.bind_some, rdRow_res rfl, Option.bind_some, Charged_ok, charged_ex]
  try simp -implicitDefEqProofs only [Option.bind_some]
  rw [c2, Option.bind_some, rdRow_res rfl, Option.bind_some, Of_ok, of_ex]
  try simp -implicitDefEqProofs only [Option.bind_some]
  rw [rdRow_res rfl, Option.bind_some, PCheck_ok, check_ex]
  try simp -implicitDefEqProofs only [Option.bind_some]
  rw [two_ok]
  try simp -implicitDefEqProofs only [Option.bind_some, hL_empty, hL_new, hL_next, List.nil_append, List.length_nil, List.cons_append, List.length_cons, Nat.zero_add, reserve0]
  rw [w0]
  try simp -implicitDefEqProofs only [Option.bind_some]
  rw [w1]
  try simp -implicitDefEqProofs only [Option.bind_some, reserve0]
  rw [q0]
  try simp -implicitDefEqProofs only [Option.bind_some]
  rw [rA, Option.bind_some, cpA]
  try simp -implicitDefEqProofs only [Option.bind_some]
  rw [q1]
  try simp -implicitDefEqProofs only [Option.bind_some]
  rw [rB, Option.bind_some, cpB]
  try simp -implicitDefEqProofs only [Option.bind_some]
  rw [rA, Option.bind_some, rB, Option.bind_some, padj_ex]
  try simp -implicitDefEqProofs only [Option.bind_some]
  have rX : ∀ h, rdRow true h PA (rowSV true PA exA) = some exA := fun h => rdRow_res rfl
  rw [cpA, rX]
  try simp -implicitDefEqProofs only [Option.bind_some]
  rw [c3, Option.bind_some, rA, Option.bind_some, rX, Option.bind_some, show period_SettleP (twoA.1, twoA.2.1, twoA.2.2.1, twoA.2.2.2) exA = some (10, 0) from settle_ex]
  try simp -implicitDefEqProofs only [Option.bind_some]
  rw [row_exA, Option.bind_some, eqA_ex]
  rfl
end Go.Proofs.YtedhmdocimkldaaDoor
/- The laws PeriodChecks and PeriodPlans in plain numbers. Conditions: none. -/
namespace Go.Proofs.YtedhmdocimkldaaDoor
open Go Go.Proofs.YtedhmdocimkldaaDoor.Ev
set_option linter.unusedVariables false
set_option linter.unusedSimpArgs false
set_option maxRecDepth 100000
set_option maxHeartbeats 4000000
theorem few_len {xs : List Per} (h : few xs = true) : xs.length ≤ 65 := by
  have := of_decide_eq_true h
  omega
theorem checks_law (l : List Per) (d : Int) : spilelaw50_PeriodChecksP l d = some true := by
  unfold spilelaw50_PeriodChecksP spilelaw50_PeriodChecks
  rw [awake50]
  try simp -implicitDefEqProofs only [Option.bind_some, Bool.not_true, Bool.not_false, cond_true]
  rw [rdRow_args rfl, Option.bind_some, Few_ok]
  try simp -implicitDefEqProofs only [Option.bind_some]
  cases hf : few l with
  | false => rfl
  | true =>
    have hc : cloneP 32 l = some l := clone_len (by have := few_len hf; omega) (by decide)
    have hx : ∀ h, rdRow true h PE (rowSV true PE l) = some l := fun h => rdRow_res rfl
    have hy : ∀ h, rdRow true h PE (rowSV false PE l) = some l := fun h => rdRow_args rfl
    try simp -implicitDefEqProofs only [Bool.not_true, cond_false, hy, hx, hc, Option.bind_some, PCheck_ok, RCheck_ok, Of_ok, ROf_ok, Charged_ok, RCharged_ok, decide_true, cond_true]
    rfl
theorem close_len {xs : List Per} (h : xs.length ≤ 65) : (closeOf xs).1.length < 2 ^ 63 := by
  unfold closeOf
  split
  · split
    · rw [shut_len]; omega
    · simp
  · simp
theorem plan_len (f l m d : Int) : (planOf f l m d).1.length < 2 ^ 63 := by
  unfold planOf
  split
  · rename_i h
    split
    · simp only [planL_len]; omega
    · simp
  · simp
theorem plans_law (l : List Per) (a b c d : Int) : spilelaw50_PeriodPlansP l a b c d = some true := by
  unfold spilelaw50_PeriodPlansP spilelaw50_PeriodPlans
  rw [awake50]
  try simp -implicitDefEqProofs only [Option.bind_some, Bool.not_true, Bool.not_false, cond_true]
  rw [rdRow_args rfl, Option.bind_some, Few_ok]
  try simp -implicitDefEqProofs only [Option.bind_some]
  cases hf : few l with
  | false => rfl
  | true =>
    have hc : cloneP 32 l = some l := clone_len (by have := few_len hf; omega) (by decide)
    have hx : ∀ (xs : List Per) h, rdRow true h PE (rowSV true PE xs) = some xs := fun xs h => rdRow_res rfl
    have hy : ∀ h, rdRow true h PE (rowSV false PE l) = some l := fun h => rdRow_args rfl
    try simp -implicitDefEqProofs only [Bool.not_true, cond_false, hy, hx, hc, Option.bind_some, Plan_ok, RPlan_ok, Close_ok, RClose_ok, EqualP_ok _ _ (plan_len a b c d), EqualP_ok _ _ (close_len (few_len hf)), decide_true, cond_true]
    rfl
end Go.Proofs.YtedhmdocimkldaaDoor
/- The law PeriodAdjusts in plain numbers. Conditions: items and duties are numbers of 64 bits. -/
namespace Go.Proofs.YtedhmdocimkldaaDoor
open Go Go.Proofs.YtedhmdocimkldaaDoor.Ev
set_option linter.unusedVariables false
set_option linter.unusedSimpArgs false
set_option maxRecDepth 100000
set_option maxHeartbeats 4000000
def fewS (s : St) : Bool := decide (s.2.2.1.length ≤ 14 ∨ s.2.2.1.length = 65)
theorem FewS_ok (s : St) : spileref49_FewP s = some (fewS s) := by
  obtain ⟨a, b, cs, t⟩ := s
  have rs := (rd_cS (sl := [cS (a, b, rowSV false CH cs, t)]) (id := 0) (s := (a, b, rowSV false CH cs, t)) rfl).2.2.1
  unfold spileref49_FewP spileref49_Few fewS
  try simp -implicitDefEqProofs only [hL_empty, hL_new, hL_next, List.nil_append, List.length_nil]
  simp only [cS] at rs
  rw [rs]
  try simp -implicitDefEqProofs only [Option.bind_some, rowSV_len]
  by_cases h : cs.length ≤ 14
  · rw [decide_eq_true (show (cs.length : Int) ≤ 14 by omega), decide_eq_true (p := _ ∨ _) (.inl h)]; rfl
  · rw [decide_eq_false (show ¬ (cs.length : Int) ≤ 14 by omega)]
    by_cases h2 : cs.length = 65
    · rw [decide_eq_true (show (cs.length : Int) = 65 by omega), decide_eq_true (p := _ ∨ _) (.inr h2)]; rfl
    · rw [decide_eq_false (show ¬ (cs.length : Int) = 65 by omega), decide_eq_false (p := _ ∨ _) (by omega)]; rfl
theorem fewS_len {s : St} (h : fewS s = true) : s.2.2.1.length ≤ 65 := by
  have := of_decide_eq_true h
  omega
/-- Items and duties are numbers of 64 bits. -/
def wordS (s : St) : Prop := ∀ c ∈ s.2.2.1, Pa.I64 c.1 ∧ Pa.I64 c.2.2.2.2.2.2.2
theorem inS_of {s : St} (h : fewS s = true) (hw : wordS s) : inS s := ⟨by have := fewS_len h; omega, hw⟩
open Classical in
noncomputable def adjS (a b : St) : List (Int × Int) × Int := if fitS a ∧ fitS b then (if a.1 = b.1 ∧ a.2.1 = b.2.1 then (adjOf (idsOf a) (idsOf b), 0) else ([], 10)) else ([], 1)
theorem adjS_len {a b : St} : (adjS a b).1.length ≤ 128 := by
  unfold adjS
  split
  · rename_i h
    split
    · exact adj_len h.1 h.2
    · simp
  · simp
theorem PAdj {a b : St} (ha : inS a) (hb : inS b) : period_AdjustP a b = some (adjS a b) := PAdjust_ok ha hb
theorem RAdj (a b : St) : spileref50_AdjustP a b = some (adjS a b) := RAdjust_ok a b
theorem rd2 {s t : Int × Int × SV × Int} : rdT (.agg [.int .i64, .int .i64, .slice, .int .i64]) (hL [cS s, cS t]) (.hp 0 4 0) = some s ∧ rdT (.agg [.int .i64, .int .i64, .slice, .int .i64]) (hL [cS s, cS t]) (.hp 1 4 0) = some t := by
  constructor <;> (rw [rds_hp (by simp), hL_m]; rfl)
theorem adjusts_law (a b : St) (l : List (Int × Int)) (ha : wordS a) (hb : wordS b) : spilelaw50_PeriodAdjustsP a b l = some true := by
  obtain ⟨a0, a1, a2, a3⟩ := a
  obtain ⟨b0, b1, b2, b3⟩ := b
  have q := rd2 (s := (a0, a1, rowSV false CH a2, a3)) (t := (b0, b1, rowSV false CH b2, b3))
  have hy : ∀ (xs : List Ch) h, rdRow true h CH (rowSV false CH xs) = some xs := fun xs h => rdRow_args rfl
  have hx : ∀ (xs : List Ch) h, rdRow true h CH (rowSV true CH xs) = some xs := fun xs h => rdRow_res rfl
  have hyA : ∀ (xs : List (Int × Int)) h, rdRow true h PA (rowSV false PA xs) = some xs := fun xs h => rdRow_args rfl
  have hxA : ∀ (xs : List (Int × Int)) h, rdRow true h PA (rowSV true PA xs) = some xs := fun xs h => rdRow_res rfl
  simp only [cS] at q
  unfold spilelaw50_PeriodAdjustsP spilelaw50_PeriodAdjusts
  rw [awake50]
  try simp -implicitDefEqProofs only [Option.bind_some, Bool.not_true, Bool.not_false, cond_true, hL_empty, hL_new, hL_next, List.nil_append, List.length_nil, List.cons_append, List.length_cons, Nat.zero_add, reserve0]
  rw [q.1]
  try simp -implicitDefEqProofs only [Option.bind_some, hy, FewS_ok]
  cases hfa : fewS (a0, a1, a2, a3) with
  | false => rfl
  | true =>
    try simp -implicitDefEqProofs only [Bool.not_true, Bool.not_false, cond_true]
    rw [q.2]
    try simp -implicitDefEqProofs only [Option.bind_some, hy, FewS_ok]
    cases hfb : fewS (b0, b1, b2, b3) with
    | false => rfl
    | true =>
      try simp -implicitDefEqProofs only [Bool.not_true, Bool.not_false, cond_true]
      have hla := fewS_len hfa
      have hlb := fewS_len hfb
      have cpa := cp_ok (s := (a0, a1, a2, a3)) (by omega)
      have cpb := cp_ok (s := (b0, b1, b2, b3)) (by omega)
      have ia := inS_of hfa ha
      have ib := inS_of hfb hb
      try simp -implicitDefEqProofs only [Option.bind_some]
      by_cases h20 : l.length ≤ 20
      · rw [decide_eq_false (show ¬ (20 : Int) < (((rowSV false PA l).len : Nat) : Int) by rw [rowSV_len]; omega)]
        have hcl : cloneP 16 l = some l := clone_len (by omega) (by decide)
        try simp -implicitDefEqProofs only [Option.bind_some, cond_false, Bool.not_true, reserve0, q.1, q.2, hy, hx, hyA, hxA, cpa, cpb, hcl, PAdj ia ib, RAdj, Settle_ok ia, RSettle_ok, EqualA_ok _ _ (show (adjS (a0, a1, a2, a3) (b0, b1, b2, b3)).1.length < 2 ^ 63 by have := adjS_len (a := (a0, a1, a2, a3)) (b := (b0, b1, b2, b3)); omega), decide_true, cond_true]
        rfl
      · rw [decide_eq_true (show (20 : Int) < (((rowSV false PA l).len : Nat) : Int) by rw [rowSV_len]; omega)]
        by_cases h129 : l.length = 129
        · rw [decide_eq_true (show (((rowSV false PA l).len : Nat) : Int) = 129 by rw [rowSV_len]; omega)]
          have hcl : cloneP 16 l = some l := clone_len (by omega) (by decide)
          try simp -implicitDefEqProofs only [Option.bind_some, cond_false, Bool.not_true, reserve0, q.1, q.2, hy, hx, hyA, hxA, cpa, cpb, hcl, PAdj ia ib, RAdj, Settle_ok ia, RSettle_ok, EqualA_ok _ _ (show (adjS (a0, a1, a2, a3) (b0, b1, b2, b3)).1.length < 2 ^ 63 by have := adjS_len (a := (a0, a1, a2, a3)) (b := (b0, b1, b2, b3)); omega), decide_true, cond_true]
          rfl
        · rw [decide_eq_false (show ¬ (((rowSV false PA l).len : Nat) : Int) = 129 by rw [rowSV_len]; omega)]
          rfl
end Go.Proofs.YtedhmdocimkldaaDoor
/- The law PeriodPlanned in plain numbers. Conditions: none. -/
namespace Go.Proofs.YtedhmdocimkldaaDoor
open Go Go.Proofs.YtedhmdocimkldaaDoor.Ev
set_option linter.unusedVariables false
set_option linter.unusedSimpArgs false
set_option maxRecDepth 100000
set_option maxHeartbeats 4000000
theorem plan_right {f l m d : Int} (h : inPlan f l m d) (hb : f + (m - 1) * l + l - 1 + d ≤ 100000) : pcheckOf (planL f l d m.toNat) = (-1, 0) := by
  have hm : ((m.toNat : Nat) : Int) = m := Int.toNat_of_nonneg (by omega)
  refine pc_of (by rw [planL_len]; omega) fun i hi => pfault_zero.2 ?_
  rw [planL_len] at hi
  have h1 := mul_low (i := i) (l := l) (by omega)
  have h2 := mul_top (l := l) (i := i) (k := m.toNat - 1) (by omega) (by omega)
  have h3 : ((m.toNat - 1 : Nat) : Int) * l = (m - 1) * l := by congr 1; omega
  rw [h3] at h2
  refine ⟨?_, ?_, ?_, ?_, fun h0 => ?_, fun h0 hc => ?_⟩ <;> rw [planL_get hi] at *
  · simp only [planP]; omega
  · simp only [planP]; omega
  · simp only [planP]; omega
  · simp only [planP]; omega
  · obtain ⟨k, rfl⟩ : ∃ k, i = k + 1 := ⟨i - 1, by omega⟩
    have h4 := mul_step (i := k) (l := l)
    rw [Nat.add_sub_cancel, planL_get (by omega)]
    simp only [planP]
    rw [i64_in _ (by have := mul_low (i := k) (l := l) (by omega); omega), h4]
    omega
  · simp only [planP] at hc
    cases hc
theorem planned_loop {f l d : Int} {n : Nat} (hf : 0 ≤ f ∧ f ≤ 100000) (hl : 1 ≤ l ∧ l ≤ 100000) (hn : n ≤ 64) (hd : 0 ≤ d ∧ d ≤ 100000) : ∃ h', iter FUEL (spilelaw50_PeriodPlanned.loop1 l d (planL f l d n)) (0, H.empty) = some (.ex0 (), h') := by
  refine ⟨cPs (planL f l d n) n, ?_⟩
  refine iter_from (fun i => ((i : Int), cPs (planL f l d n) i)) (by rw [hL_empty]; rfl) n FUEL (fun i hi => ?_) ?_ (fuel_gt (by omega))
  · have hi2 : i < (planL f l d n).length := by rw [planL_len]; exact hi
    have hq := planL_get (f := f) (l := l) (d := d) hi
    have hlen : (((planL f l d n).take i).map cP).length = i := by simp [planL_len]; omega
    have hr := rd_cP (sl := ((planL f l d n).take i).map cP ++ [cP (pq (planL f l d n) i)]) (id := (((planL f l d n).take i).map cP).length) (p := pq (planL f l d n) i) (by simp)
    have h1 := mul_low (i := i) (l := l) (by omega)
    have h2 := mul_64 (i := i) (l := l) (by omega) hl.2 (by omega)
    rw [show cPs (planL f l d n) i = hL (((planL f l d n).take i).map cP) from rfl, ← cPs_succ hi2]
    unfold spilelaw50_PeriodPlanned.loop1
    try simp -implicitDefEqProofs only [planL_len, Int.toNat_natCast]
    rw [decide_eq_true (show (i : Int) < (n : Int) by omega), cond_true, guardO_pos (show 0 ≤ (i : Int) ∧ (i : Int) < (n : Int) by omega), rds_pq hi2]
    try simp -implicitDefEqProofs only [Option.bind_some, hL_new, hL_next]
    rw [new_cP]
    try simp -implicitDefEqProofs only [Option.bind_some]
    rw [hr.1, hr.2.1, hr.2.2.1, hr.2.2.2, hq]
    try simp -implicitDefEqProofs only [Option.bind_some, planP, Bool.not_false, cond_true]
    rw [i64_in (f + (i : Int) * l + l - 1 - (f + (i : Int) * l)) (by omega), i64_in (f + (i : Int) * l + l - 1 - (f + (i : Int) * l) + 1) (by omega), i64_in (f + (i : Int) * l + l - 1 + d - (f + (i : Int) * l + l - 1)) (by omega), decide_eq_true (show f + (i : Int) * l + l - 1 - (f + (i : Int) * l) + 1 = l by omega), decide_eq_true (show f + (i : Int) * l + l - 1 + d - (f + (i : Int) * l + l - 1) = d by omega), i64_succ (by omega)]
    rfl
  · unfold spilelaw50_PeriodPlanned.loop1
    try simp -implicitDefEqProofs only [planL_len]
    rw [decide_eq_false (by omega), cond_false]
theorem planned_law (f l m d : Int) : spilelaw50_PeriodPlannedP f l m d = some true := by
  unfold spilelaw50_PeriodPlannedP spilelaw50_PeriodPlanned
  rw [awake50]
  try simp -implicitDefEqProofs only [Option.bind_some, Bool.not_true, cond_false]
  rw [Plan_ok]
  unfold planOf
  by_cases hin : inPlan f l m d
  · rw [if_pos hin]
    by_cases hb : f + (m - 1) * l + l - 1 + d ≤ 100000
    · rw [if_pos hb]
      have hm : ((m.toNat : Nat) : Int) = m := Int.toNat_of_nonneg (by omega)
      have hn : (planL f l d m.toNat).length = m.toNat := planL_len
      have hx : ∀ h, rdRow true h PE (rowSV true PE (planL f l d m.toNat)) = some (planL f l d m.toNat) := fun h => rdRow_res rfl
      have hc : cloneP 32 (planL f l d m.toNat) = some (planL f l d m.toNat) := clone_len (by omega) (by decide)
      obtain ⟨h', hlp⟩ := planned_loop (f := f) (l := l) (d := d) (n := m.toNat) hin.1 hin.2.1 (by omega) hin.2.2.2
      have h0 : rdT (.leaf (.int .i64)) H.empty ((rowSV true PE (planL f l d m.toNat)).a.add (0 * 4 + 0)) = some f := by
        rw [(rd_pq (f := true) (by omega)).1, planL_get (by omega)]
        simp [planP]
      try simp -implicitDefEqProofs only [Option.bind_some, decide_true, Bool.not_true, cond_false]
      rw [hx, Option.bind_some, hc, Option.bind_some, hx, Option.bind_some, PCheck_ok, plan_right hin hb]
      try simp -implicitDefEqProofs only [Option.bind_some, decide_true, Bool.not_true, Bool.not_false, cond_true]
      rw [hn, hm, decide_eq_true rfl]
      try simp -implicitDefEqProofs only [Bool.not_true, Bool.not_false, cond_true]
      rw [guardO_pos (show 0 ≤ (0 : Int) ∧ 0 < m by omega), guardO_pos (nn_pq (by omega)), add_pq]
      rw [show (rowSV true PE (planL f l d m.toNat)).a.add (0 + 0) = (rowSV true PE (planL f l d m.toNat)).a.add (0 * 4 + 0) from rfl, h0]
      try simp -implicitDefEqProofs only [Option.bind_some, decide_true, Bool.not_true, cond_false]
      rw [hlp]
      rfl
    · rw [if_neg hb]
      rfl
  · rw [if_neg hin]
    rfl
end Go.Proofs.YtedhmdocimkldaaDoor
/- The law PeriodCovers in plain numbers. Conditions: none. -/
namespace Go.Proofs.YtedhmdocimkldaaDoor
open Go Go.Proofs.YtedhmdocimkldaaDoor.Ev
set_option linter.unusedVariables false
set_option linter.unusedSimpArgs false
set_option maxRecDepth 100000
set_option maxHeartbeats 4000000
theorem apart {xs : List Per} (h : (pcheckOf xs).2 = 0) {i : Nat} : ∀ {j : Nat}, i < j → j < xs.length → (pq xs i).2.1 < (pq xs j).1
  | 0, hij, _ => absurd hij (Nat.not_lt_zero i)
  | j + 1, hij, hj => by
    have hn := right_next h hj
    by_cases he : i = j
    · subst he; omega
    · have := apart h (i := i) (j := j) (by omega) (by omega)
      have := (right1 h (i := j) (by omega)).mid
      omega
theorem inPer_iff {xs : List Per} {d : Int} {i : Nat} : inPer d (pq xs i) = true ↔ (pq xs i).1 ≤ d ∧ d ≤ (pq xs i).2.1 := by unfold inPer; simp
theorem in_one {xs : List Per} (h : (pcheckOf xs).2 = 0) {d : Int} {i j : Nat} (hi : i < xs.length) (hj : j < xs.length) (h1 : inPer d (pq xs i) = true) (h2 : inPer d (pq xs j) = true) : i = j := by
  rw [inPer_iff] at h1 h2
  rcases Nat.lt_trichotomy i j with hlt | he | hlt
  · have := apart h hlt hj; omega
  · exact he
  · have := apart h hlt hi; omega
theorem in_some {xs : List Per} (h : (pcheckOf xs).2 = 0) {d : Int} (h0 : 0 < xs.length) (h1 : (pq xs 0).1 ≤ d) : ∀ {k : Nat}, k < xs.length → d ≤ (pq xs k).2.1 → ∃ i, i < xs.length ∧ inPer d (pq xs i) = true
  | 0, hk, h2 => ⟨0, h0, inPer_iff.2 ⟨h1, h2⟩⟩
  | k + 1, hk, h2 => by
    have hn := right_next h hk
    by_cases h3 : d ≤ (pq xs k).2.1
    · exact in_some h h0 h1 (k := k) (by omega) h3
    · exact ⟨k + 1, hk, inPer_iff.2 ⟨by omega, h2⟩⟩
theorem pof_no {xs : List Per} (h : (pcheckOf xs).2 = 0) {d : Int} (hno : ∀ i, i < xs.length → inPer d (pq xs i) = false) : pofOf xs d = (-1, 7) := by
  unfold pofOf
  rw [if_pos h]
  have : xs.findIdx? (inPer d) = none := List.findIdx?_eq_none_iff.2 fun x hx => by
    obtain ⟨i, hi, rfl⟩ := List.mem_iff_getElem.1 hx
    have := hno i hi
    unfold pq at this
    rw [List.getElem?_eq_getElem hi] at this
    exact this
  rw [this]
theorem pof_yes {xs : List Per} (h : (pcheckOf xs).2 = 0) {d : Int} {i : Nat} (hi : i < xs.length) (hin : inPer d (pq xs i) = true) : pofOf xs d = ((i : Int), 0) := by
  unfold pofOf
  rw [if_pos h]
  cases hf : xs.findIdx? (inPer d) with
  | none =>
    have hx : pq xs i ∈ xs := List.mem_of_getElem? (pq_eq hi)
    have := List.findIdx?_eq_none_iff.1 hf _ hx
    rw [hin] at this; cases this
  | some k =>
    obtain ⟨hm, hbad, -⟩ := List.findIdx?_eq_some_iff_getElem.1 hf
    have hq : pq xs k = xs[k] := by unfold pq; rw [List.getElem?_eq_getElem hm]; rfl
    rw [← hq] at hbad
    rw [in_one h hm hi hbad hin]
theorem covers_loop {xs : List Per} (hl : xs.length ≤ 65) {d : Int} {k : Nat} (hk : k < xs.length) (hone : ∀ i, i < xs.length → inPer d (pq xs i) = decide (i = k)) : ∃ h', iter FUEL (spilelaw50_PeriodCovers.loop1 (rowSV false PE xs) d) ((0, 0), H.empty) = some (.ex0 1, h') := by
  refine ⟨cPs xs xs.length, ?_⟩
  refine iter_from (fun i => (((if k < i then 1 else 0 : Int), (i : Int)), cPs xs i)) (by rw [hL_empty]; rfl) xs.length FUEL (fun i hi => ?_) ?_ (fuel_gt (by omega))
  · have hr := rd_cP (sl := (xs.take i).map cP ++ [cP (pq xs i)]) (id := ((xs.take i).map cP).length) (p := pq xs i) (by simp)
    have ho := hone i hi
    unfold inPer at ho
    rw [show cPs xs i = hL ((xs.take i).map cP) from rfl, ← cPs_succ hi]
    unfold spilelaw50_PeriodCovers.loop1
    try simp -implicitDefEqProofs only [rowSV_len, Int.toNat_natCast]
    rw [decide_eq_true (show (i : Int) < (xs.length : Int) by omega), cond_true, guardO_pos (by omega), rds_pq hi]
    try simp -implicitDefEqProofs only [Option.bind_some, hL_new, hL_next]
    rw [new_cP]
    try simp -implicitDefEqProofs only [Option.bind_some]
    rw [hr.1, hr.2.1]
    try simp -implicitDefEqProofs only [Option.bind_some]
    by_cases hik : i = k
    · rw [decide_eq_true hik] at ho
      have ho := of_decide_eq_true ho
      rw [decide_eq_true ho.1, decide_eq_true ho.2, if_neg (by omega), if_pos (by omega)]
      try simp -implicitDefEqProofs only [cond_true, Option.bind_some]
      rw [i64_succ (by omega)]
      rfl
    · rw [decide_eq_false hik] at ho
      have ho := of_decide_eq_false ho
      have he : (if k < i + 1 then 1 else 0 : Int) = if k < i then 1 else 0 := by split <;> split <;> omega
      rw [he]
      by_cases h1 : (pq xs i).1 ≤ d
      · rw [decide_eq_true h1, decide_eq_false (fun h2 => ho ⟨h1, h2⟩)]
        try simp -implicitDefEqProofs only [cond_true, cond_false, Option.bind_some]
        rw [i64_succ (by omega)]
      · rw [decide_eq_false h1]
        try simp -implicitDefEqProofs only [cond_false, Option.bind_some]
        rw [i64_succ (by omega)]
  · unfold spilelaw50_PeriodCovers.loop1
    try simp -implicitDefEqProofs only [rowSV_len]
    rw [decide_eq_false (by omega), cond_false, if_pos hk]
theorem covers_law (l : List Per) (d : Int) : spilelaw50_PeriodCoversP l d = some true := by
  unfold spilelaw50_PeriodCoversP spilelaw50_PeriodCovers
  rw [awake50]
  try simp -implicitDefEqProofs only [Option.bind_some, Bool.not_true, Bool.not_false, cond_true]
  rw [rdRow_args rfl, Option.bind_some, Few_ok]
  try simp -implicitDefEqProofs only [Option.bind_some]
  cases hf : few l with
  | false => rfl
  | true =>
    have hl := few_len hf
    have hc : cloneP 32 l = some l := clone_len (by omega) (by decide)
    have hx : ∀ h, rdRow true h PE (rowSV true PE l) = some l := fun h => rdRow_res rfl
    have hy : ∀ h, rdRow true h PE (rowSV false PE l) = some l := fun h => rdRow_args rfl
    try simp -implicitDefEqProofs only [Bool.not_true, cond_false, hy, hx, hc, Option.bind_some, PCheck_ok, Of_ok]
    by_cases hp : (pcheckOf l).2 = 0
    · rw [decide_eq_true hp]
      try simp -implicitDefEqProofs only [Bool.not_true, cond_false, rowSV_len]
      by_cases h0 : l.length = 0
      · rw [decide_eq_true (show (l.length : Int) = 0 by omega), pof_no hp (fun i hi => by omega)]
        rfl
      · have hlast : IntKind.i64.wrap ((l.length : Int) - 1) = ((l.length - 1 : Nat) : Int) := by rw [i64_in _ (by omega)]; omega
        have e0 : (rowSV false PE l).a.add (0 + 0) = (rowSV false PE l).a.add (0 * 4 + 0) := rfl
        rw [decide_eq_false (show ¬ (l.length : Int) = 0 by omega), hlast]
        try simp -implicitDefEqProofs only [Bool.not_false, cond_true, Int.toNat_natCast]
        rw [guardO_pos (show 0 ≤ (0 : Int) ∧ 0 < (l.length : Int) by omega), guardO_pos (nn_pq h0), add_pq, e0, (rd_pq (by omega)).1]
        try simp -implicitDefEqProofs only [Option.bind_some]
        by_cases h1 : d < (pq l 0).1
        · rw [decide_eq_true h1, pof_no hp (fun i hi => by
            cases hin : inPer d (pq l i) with
            | false => rfl
            | true =>
              rw [inPer_iff] at hin
              by_cases hi0 : i = 0
              · subst hi0; omega
              · have := apart hp (i := 0) (j := i) (by omega) hi
                have := (right1 hp (i := 0) (by omega)).mid
                omega)]
          rfl
        · rw [decide_eq_false h1]
          try simp -implicitDefEqProofs only [Bool.not_false, cond_true]
          rw [guardO_pos (show 0 ≤ ((l.length - 1 : Nat) : Int) ∧ ((l.length - 1 : Nat) : Int) < (l.length : Int) by omega), guardO_pos (nn_pq h0), add_pq, (rd_pq (by omega)).2.1]
          try simp -implicitDefEqProofs only [Option.bind_some]
          by_cases h2 : (pq l (l.length - 1)).2.1 < d
          · rw [decide_eq_true h2, pof_no hp (fun i hi => by
              cases hin : inPer d (pq l i) with
              | false => rfl
              | true =>
                rw [inPer_iff] at hin
                by_cases hi0 : i = l.length - 1
                · subst hi0; omega
                · have := apart hp (i := i) (j := l.length - 1) (by omega) (by omega)
                  have := (right1 hp (i := l.length - 1) (by omega)).mid
                  omega)]
            rfl
          · rw [decide_eq_false h2, cond_false]
            obtain ⟨k, hk, hin⟩ := in_some hp (d := d) (by omega) (by omega) (k := l.length - 1) (by omega) (by omega)
            obtain ⟨h', hlp⟩ := covers_loop hl (d := d) hk (fun i hi => by
              cases hi2 : inPer d (pq l i) with
              | true => exact (decide_eq_true (in_one hp hi hk hi2 hin)).symm
              | false => exact (decide_eq_false (fun e => by subst e; rw [hin] at hi2; cases hi2)).symm)
            have hin2 := inPer_iff.1 hin
            rw [pof_yes hp hk hin, hlp]
            try simp -implicitDefEqProofs only [Option.bind_some, decide_true, cond_true, Int.toNat_natCast]
            rw [decide_eq_true (show (0 : Int) ≤ (k : Int) by omega), decide_eq_true (show (k : Int) < (l.length : Int) by omega), cond_true, cond_true, guardO_pos (show 0 ≤ (k : Int) ∧ (k : Int) < (l.length : Int) by omega), guardO_pos (nn_pq h0), add_pq, (rd_pq hk).1]
            try simp -implicitDefEqProofs only [Option.bind_some]
            rw [decide_eq_true hin2.1, cond_true, guardO_pos (show 0 ≤ (k : Int) ∧ (k : Int) < (l.length : Int) by omega), guardO_pos (nn_pq h0), add_pq, (rd_pq hk).2.1]
            try simp -implicitDefEqProofs only [Option.bind_some]
            rw [decide_eq_true hin2.2]
            rfl
    · have hpo : pofOf l d = (-1, 1) := by unfold pofOf; rw [if_neg hp]
      rw [decide_eq_false hp, hpo]
      rfl
end Go.Proofs.YtedhmdocimkldaaDoor
/- The law PeriodOpen in plain numbers. Conditions: none. -/
namespace Go.Proofs.YtedhmdocimkldaaDoor
open Go Go.Proofs.YtedhmdocimkldaaDoor.Ev
set_option linter.unusedVariables false
set_option linter.unusedSimpArgs false
set_option maxRecDepth 100000
set_option maxHeartbeats 4000000
theorem shut_get {xs : List Per} {k j : Nat} (hk : k < xs.length) : pq (shutAt xs k) j = if j = k then shut (pq xs k) else pq xs j := by
  unfold shutAt pq
  by_cases h : j = k
  · subst h; rw [if_pos rfl, List.getElem?_set_self hk]; rfl
  · rw [if_neg h, List.getElem?_set_ne (fun e => h e.symm)]
theorem shut_same {xs : List Per} {k j : Nat} (hk : k < xs.length) : (pq (shutAt xs k) j).1 = (pq xs j).1 ∧ (pq (shutAt xs k) j).2.1 = (pq xs j).2.1 ∧ (pq (shutAt xs k) j).2.2.1 = (pq xs j).2.2.1 := by
  rw [shut_get hk]
  by_cases h : j = k
  · subst h; rw [if_pos rfl]; exact ⟨rfl, rfl, rfl⟩
  · rw [if_neg h]; exact ⟨rfl, rfl, rfl⟩
theorem shut_right {xs : List Per} (h : (pcheckOf xs).2 = 0) {k : Nat} (hk : k < xs.length) (hc : ∀ j, j < k → (pq xs j).2.2.2 = true) : (pcheckOf (shutAt xs k)).2 = 0 := by
  rw [pc_of (xs := shutAt xs k) (by rw [shut_len]; exact check_few h) fun i hi => pfault_zero.2 ?_]
  rw [shut_len] at hi
  have r := right1 h hi
  obtain ⟨e1, e2, e3⟩ := shut_same (xs := xs) (k := k) (j := i) hk
  obtain ⟨f1, f2, f3⟩ := shut_same (xs := xs) (k := k) (j := i - 1) hk
  refine ⟨by rw [e1]; exact r.lo, by rw [e1, e2]; exact r.mid, by rw [e2, e3]; exact r.due, by rw [e3]; exact r.hi, fun h0 => by rw [e1, f2]; exact r.next h0, fun h0 hcl => ?_⟩
  rw [shut_get hk] at hcl ⊢
  by_cases h1 : i - 1 = k
  · rw [if_pos h1]; rfl
  · rw [if_neg h1]
    by_cases h2 : i = k
    · exact hc _ (by omega)
    · rw [if_neg h2] at hcl
      exact r.closed h0 hcl
theorem shut_pof {xs : List Per} (h : (pcheckOf xs).2 = 0) {k : Nat} (hk : k < xs.length) (hc : ∀ j, j < k → (pq xs j).2.2.2 = true) (d : Int) : pofOf (shutAt xs k) d = pofOf xs d := by
  have hin : ∀ i, inPer d (pq (shutAt xs k) i) = inPer d (pq xs i) := fun i => by
    obtain ⟨e1, e2, _⟩ := shut_same (xs := xs) (k := k) (j := i) hk
    unfold inPer; rw [e1, e2]
  have h2 := shut_right h hk hc
  by_cases hy : ∃ i, i < xs.length ∧ inPer d (pq xs i) = true
  · obtain ⟨i, hi, hi2⟩ := hy
    rw [pof_yes h hi hi2, pof_yes h2 (by rw [shut_len]; exact hi) (by rw [hin]; exact hi2)]
  · have hno : ∀ i, i < xs.length → inPer d (pq xs i) = false := fun i hi => by
      cases hx : inPer d (pq xs i) with
      | false => rfl
      | true => exact absurd ⟨i, hi, hx⟩ hy
    rw [pof_no h hno, pof_no h2 fun i hi => by rw [hin]; exact hno i (by rw [shut_len] at hi; exact hi)]
theorem Acc.clone {sl : List Slot} {xs : List Per} {s : SV} {o : Option Nat} (h : Ev.Acc sl PE xs s o) (hl : xs.length ≤ 2 ^ 36) : ∃ s' ext o', cloneX 4 32 s (hL sl) = some (s', hL (sl ++ ext)) ∧ Ev.Acc (sl ++ ext) PE xs s' o' := by
  unfold cloneX
  rw [h.len]
  by_cases h0 : xs.length = 0
  · have : xs = [] := List.eq_nil_of_length_eq_zero h0
    subst this
    exact ⟨⟨.lp true [] 0, 0, 0, false⟩, [], none, by rw [List.append_nil]; rfl, Acc.nil'⟩
  · rw [if_neg h0]
    have hc := Acc.cells h (w := 4) rfl (by omega)
    rw [h.len] at hc
    rw [hc, Option.bind_some, app_empty (sl := sl) (w := 4) (b := 32) (ls := PE) (xs := xs) rfl h0 hl (by omega)]
    exact ⟨_, _, some sl.length, rfl, by omega, rfl, by simp⟩
end Go.Proofs.YtedhmdocimkldaaDoor
/- The law PeriodOpen in plain numbers. Conditions: none. -/
namespace Go.Proofs.YtedhmdocimkldaaDoor
open Go Go.Proofs.YtedhmdocimkldaaDoor.Ev
set_option linter.unusedVariables false
set_option linter.unusedSimpArgs false
set_option maxRecDepth 100000
set_option maxHeartbeats 4000000
theorem Acc.per {sl : List Slot} {xs : List Per} {s : SV} {o : Option Nat} (h : Ev.Acc sl PE xs s o) {i : Nat} (hi : i < xs.length) : V.nn (V.add s.a (i * 4)) = true ∧ rdT (.agg PE) (hL sl) (V.add s.a (i * 4)) = some (pq xs i) ∧ rdT (.leaf .bool) (hL sl) (V.add (V.add s.a (i * 4)) 3) = some (pq xs i).2.2.2 := by
  cases o with
  | none => obtain ⟨rfl, _⟩ := h; simp at hi
  | some id =>
    obtain ⟨h1, rfl, h3⟩ := h
    refine ⟨rfl, ?_, ?_⟩
    · have := rds_ownL (ls := PE) (ms := PE) (xs := xs) (sl := sl) (id := id) (e := 4) (n := xs.length * 4) (i := i) (w := 4) h3 rfl rfl rfl (by omega)
      show rdT (.agg PE) (hL sl) (.hp id (xs.length * 4) (0 + i * 4)) = _
      rw [Nat.zero_add, this, pq_eq hi]
      rfl
    · have := rd_ownL (l := .bool) (ls := PE) (xs := xs) (sl := sl) (id := id) (e := 4) (n := xs.length * 4) (i := i) (w := 4) (o := 3) h3 rfl rfl (by omega)
      show rdT (.leaf .bool) (hL sl) (.hp id (xs.length * 4) (0 + i * 4 + 3)) = _
      rw [Nat.zero_add, this, pq_eq hi]
      rfl
theorem IndexFunc_acc {T : Table} {v : V} {sl : List Slot} {xs : List Per} {s : SV} {o : Option Nat} (hacc : Ev.Acc sl PE xs s o) (p : Per → Bool) (hn : xs.length < 2 ^ 63) (hc : ∀ x ∈ xs, ∀ {R : Type} (k : V → H → Option R), callV T.dy v [.agg [.int .i64 x.1, .int .i64 x.2.1, .int .i64 x.2.2.1, .bool x.2.2.2]] (hL sl) k = k (.bool (p x)) (hL sl)) :
    slices_IndexFunc_api_Period_api_Period T s v (hL sl) = some (idxP p xs, hL sl) := by
  unfold slices_IndexFunc_api_Period_api_Period
  rw [iter_find xs p (fun i => (i : Int)) hn (fun i x hx => by
    obtain ⟨hlt, hx'⟩ := List.getElem?_eq_some_iff.1 hx
    have hq : pq xs i = x := by unfold pq; rw [hx]; rfl
    unfold slices_IndexFunc_api_Period_api_Period.loop1
    try simp -implicitDefEqProofs only [hacc.len, Int.toNat_natCast]
    rw [decide_eq_true (by omega), cond_true, guardO_pos (by omega), (Acc.per hacc hlt).2.1, hq]
    try simp -implicitDefEqProofs only [Option.bind_some]
    rw [hc _ (by rw [← hx']; exact List.getElem_mem hlt)]
    try simp -implicitDefEqProofs only [Res.pack, Ty.pack, Leaf.pack, Option.bind_some]
    rw [i64_succ (by omega)]
    cases p x <;> rfl) (by
    unfold slices_IndexFunc_api_Period_api_Period.loop1
    try simp -implicitDefEqProofs only [hacc.len]
    rw [decide_eq_false (by omega), cond_false])]
  unfold idxP
  cases xs.findIdx? p <;> rfl
theorem idxP_nonneg (p : Per → Bool) (xs : List Per) : decide (0 ≤ idxP p xs) = (xs.findIdx? p).isSome := by
  unfold idxP
  cases xs.findIdx? p with
  | none => rfl
  | some i => simp
theorem ContainsFunc_acc {T : Table} {v : V} {sl : List Slot} {xs : List Per} {s : SV} {o : Option Nat} (hacc : Ev.Acc sl PE xs s o) (p : Per → Bool) (hn : xs.length < 2 ^ 63) (hc : ∀ x ∈ xs, ∀ {R : Type} (k : V → H → Option R), callV T.dy v [.agg [.int .i64 x.1, .int .i64 x.2.1, .int .i64 x.2.2.1, .bool x.2.2.2]] (hL sl) k = k (.bool (p x)) (hL sl)) :
    slices_ContainsFunc_api_Period_api_Period T s v (hL sl) = some ((xs.findIdx? p).isSome, hL sl) := by
  unfold slices_ContainsFunc_api_Period_api_Period
  rw [IndexFunc_acc (T := slices_ContainsFunc_api_Period_api_Period.tb T) hacc p hn hc]
  simp only [Option.bind_some, idxP_nonneg]
theorem po1_ok (p : Per) : spilelaw50_PeriodOpen_1P p = some (isOpen p) := (show spilelaw50_PeriodOpen_1P p = period_open_1P p from rfl).trans (open1_ok p)
theorem po2_ok (p : Per) : spilelaw50_PeriodOpen_2P p = some (isOpen p) := (show spilelaw50_PeriodOpen_2P p = period_open_1P p from rfl).trans (open1_ok p)
theorem Acc.shut {sl : List Slot} {xs : List Per} {s : SV} {o : Option Nat} {k : Nat} (h : Ev.Acc sl PE xs s o) (hk : k < xs.length) : ∃ sl', H.wrs (hL sl) (V.add (V.add s.a (k * 4)) 3) [.bool true] = some (hL sl') ∧ Ev.Acc sl' PE (shutAt xs k) s o := by
  cases o with
  | none => obtain ⟨rfl, _⟩ := h; simp at hk
  | some id =>
    obtain ⟨h1, rfl, h3⟩ := h
    refine ⟨_, wr_shut h3 hk, by rw [shut_len]; exact h1, by rw [shut_len], ?_⟩
    rw [List.getElem?_set_self (List.getElem?_eq_some_iff.1 h3).1]
    rfl
end Go.Proofs.YtedhmdocimkldaaDoor
/- The law PeriodOpen in plain numbers. Conditions: none. -/
namespace Go.Proofs.YtedhmdocimkldaaDoor
open Go Go.Proofs.YtedhmdocimkldaaDoor.Ev
set_option linter.unusedVariables false
set_option linter.unusedSimpArgs false
set_option maxRecDepth 100000
set_option maxHeartbeats 4000000
theorem closeOf_none {xs : List Per} (h : (pcheckOf xs).2 = 0) (ho : xs.findIdx? isOpen = none) : closeOf xs = ([], 11) := by
  unfold closeOf; rw [if_pos h, ho]
theorem closeOf_some {xs : List Per} (h : (pcheckOf xs).2 = 0) {k : Nat} (ho : xs.findIdx? isOpen = some k) : closeOf xs = (shutAt xs k, 0) := by
  unfold closeOf; rw [if_pos h, ho]
theorem open_step {l : List Per} {d : Int} {xs : List Per} {sl : List Slot} {s : SV} {o : Option Nat} (hl : l.length ≤ 64) (hlen : xs.length = l.length) (hp : (pcheckOf xs).2 = 0) (hpo : pofOf xs d = pofOf l d) (hacc : Ev.Acc sl PE xs s o) {i : Nat} (hi : i ≤ l.length) :
    (∀ k, xs.findIdx? isOpen = some k → ∃ sl', spilelaw50_PeriodOpen.loop1 (rowSV false PE l) d (pofOf l d).1 (pofOf l d).2 s ((i : Int), hL sl) = some (.more (((i + 1 : Nat) : Int), hL sl')) ∧ Ev.Acc sl' PE (shutAt xs k) s o) ∧
    (xs.findIdx? isOpen = none → ∃ h', spilelaw50_PeriodOpen.loop1 (rowSV false PE l) d (pofOf l d).1 (pofOf l d).2 s ((i : Int), hL sl) = some (.done (.ret true, h'))) := by
  obtain ⟨s1, e1, o1, c1, a1⟩ := Acc.clone hacc (by omega)
  obtain ⟨s2, e2, o2, c2, a2⟩ := Acc.clone (hacc.more (sl' := e1)) (by omega)
  have hacc3 : Ev.Acc (sl ++ e1 ++ e2) PE xs s o := hacc.more.more
  have hcond : ∀ (r29 : Int) (h : H), (xs.findIdx? isOpen = none → r29 = 11) → h = hL (sl ++ e1 ++ e2) → ((bif (!(decide ((pofOf l d).2 = 0))) then (((bif !(!(decide ((chargedOf xs d).2 = (pofOf l d).2))) then (some ((!(decide ((chargedOf xs d).1 = (-1)))), h)) else (some (true, h)))).bind fun (y31, h32) =>
(bif y31 then (some (.ret false, h32)) else (some (.next (), h32)))) else (((bif (decide ((chargedOf xs d).2 = 0)) then (bif !(decide ((chargedOf xs d).1 < (pofOf l d).1)) then (bif !(decide (((s.len : Nat) : Int) ≤ (chargedOf xs d).1)) then (guardO (0 ≤ (chargedOf xs d).1 ∧ (chargedOf xs d).1 < ((s.len : Nat) : Int)) (guardO (V.nn ((V.add s.a (Int.toNat (chargedOf xs d).1 * 4)) : V) = true) ((rdT (.leaf .bool) h (V.add (V.add s.a (Int.toNat (chargedOf xs d).1 * 4)) 3)).bind fun x33 =>
(bif !x33 then (bif (!(decide ((chargedOf xs d).2 = 0))) then (bif !(!(decide ((chargedOf xs d).2 = 11))) then (some ((!(decide (r29 = 11))), h)) else (some (true, h))) else (some (false, h))) else (some (true, h)))))) else (some (true, h))) else (some (true, h))) else (bif (!(decide ((chargedOf xs d).2 = 0))) then (bif !(!(decide ((chargedOf xs d).2 = 11))) then (some ((!(decide (r29 = 11))), h)) else (some (true, h))) else (some (false, h))))).bind fun (y34, h35) =>
(bif y34 then (some (.ret false, h35)) else (some (.next (), h35))))) : Option (Flow (Unit) (Bool) × H)) = some (.next (), h) := fun r29 h h29 hh => by
    subst hh
    unfold chargedOf
    rw [hpo]
    by_cases he : (pofOf l d).2 = 0
    · rw [if_pos he, decide_eq_true he]
      cases ho : xs.findIdx? isOpen with
      | none =>
        have hx : idxP isOpen xs = -1 := by unfold idxP; rw [ho]
        rw [hx, h29 ho]
        rfl
      | some k =>
        have hx : idxP isOpen xs = (k : Int) := by unfold idxP; rw [ho]
        obtain ⟨hk, ho1, ho2⟩ := open_some ho
        obtain ⟨_, j, hj, hje, _⟩ := pof_ok (xs := xs) (d := d) (by rw [hpo]; exact he)
        rw [hpo] at hje
        have hm : max (j : Int) (k : Int) = ((max j k : Nat) : Int) := by omega
        have hmk : max j k < xs.length := by omega
        have hopen := open_up hp (k := k) (i := max j k) (by omega) hmk ho1
        obtain ⟨g1, g2, g3⟩ := Acc.per hacc3 hmk
        rw [hx, hje, if_neg (by omega)]
        try simp -implicitDefEqProofs only [hacc.len]
        rw [hm, decide_true, decide_eq_false (show ¬ ((max j k : Nat) : Int) < (j : Int) by omega), decide_eq_false (show ¬ (xs.length : Int) ≤ ((max j k : Nat) : Int) by omega)]
        try simp -implicitDefEqProofs only [Bool.not_true, Bool.not_false, cond_true, cond_false, Int.toNat_natCast]
        rw [guardO_pos (show 0 ≤ ((max j k : Nat) : Int) ∧ ((max j k : Nat) : Int) < (xs.length : Int) by omega), guardO_pos g1, g3, hopen]
        rfl
    · rw [if_neg he, decide_eq_false he]
      try simp -implicitDefEqProofs only [Bool.not_false, cond_true, decide_true, Option.bind_some]
      rfl
  have q1 : ∀ {R : Type} (h : H) (x : Per) (k : V → H → Option R), callV (spilelaw50_PeriodOpen.tb).dy (.func 33 []) [.agg [.int .i64 x.1, .int .i64 x.2.1, .int .i64 x.2.2.1, .bool x.2.2.2]] h k = k (.bool (isOpen x)) h := fun h x k => by
    obtain ⟨a, b, c, e⟩ := x
    show (spilelaw50_PeriodOpen_1P (a, b, c, e)).bind (fun r => k ((Res.one (.leaf .bool)).lo true r) _) = _
    rw [po1_ok]; rfl
  have q2 : ∀ {R : Type} (h : H) (x : Per) (k : V → H → Option R), callV (spilelaw50_PeriodOpen.tb).dy (.func 35 []) [.agg [.int .i64 x.1, .int .i64 x.2.1, .int .i64 x.2.2.1, .bool x.2.2.2]] h k = k (.bool (isOpen x)) h := fun h x k => by
    obtain ⟨a, b, c, e⟩ := x
    show (spilelaw50_PeriodOpen_2P (a, b, c, e)).bind (fun r => k ((Res.one (.leaf .bool)).lo true r) _) = _
    rw [po2_ok]; rfl
  have hw : IntKind.i64.wrap ((l.length : Int) + 1) = (l.length : Int) + 1 := i64_in _ (by omega)
  constructor
  · intro k ho
    obtain ⟨hk, ho1, ho2⟩ := open_some ho
    have hx : idxP isOpen xs = (k : Int) := by unfold idxP; rw [ho]
    have hcl := closeOf_some hp ho
    have hsl : (shutAt xs k).length = xs.length := shut_len
    obtain ⟨sl', w1, w2⟩ := Acc.shut hacc3 hk
    have hsk : (pq (shutAt xs k) k).2.2.2 = true := by rw [shut_get hk, if_pos rfl]; rfl
    have hx2 : ∀ h, rdRow true h PE (rowSV true PE (shutAt xs k)) = some (shutAt xs k) := fun h => rdRow_res rfl
    refine ⟨sl', ?_, w2⟩
    unfold spilelaw50_PeriodOpen.loop1
    try simp -implicitDefEqProofs only [rowSV_len, hw]
    rw [decide_eq_true (show (i : Int) < (l.length : Int) + 1 by omega), cond_true, c1, Option.bind_some]
    try simp -implicitDefEqProofs only []
    rw [a1.read rfl, Option.bind_some, Charged_ok, Option.bind_some]
    try simp -implicitDefEqProofs only []
    rw [c2, Option.bind_some]
    try simp -implicitDefEqProofs only []
    rw [a2.read rfl, Option.bind_some, Close_ok, hcl, Option.bind_some]
    try simp -implicitDefEqProofs only []
    have hc := hcond 0 _ (fun e => by rw [ho] at e; cases e) rfl
    simp only [Bool.not_not] at hc ⊢
    rw [hc]
    try simp -implicitDefEqProofs only [Option.bind_some, decide_true, Bool.not_true, cond_false]
    rw [IndexFunc_acc hacc3 isOpen (by omega) (fun x _ R k => q2 _ x k), hx]
    try simp -implicitDefEqProofs only [Option.bind_some, hsl, hacc.len]
    rw [decide_eq_false (show ¬ (k : Int) < 0 by omega), decide_true]
    try simp -implicitDefEqProofs only [Bool.not_false, Bool.not_true, cond_true, Int.toNat_natCast]
    rw [guardO_pos (show 0 ≤ (k : Int) ∧ (k : Int) < (xs.length : Int) by omega), guardO_pos (nn_pq (by omega)), add_pq, (rd_pq (by omega)).2.2, hsk]
    try simp -implicitDefEqProofs only [Option.bind_some, Bool.not_true, cond_false]
    rw [guardO_pos (Acc.per hacc3 hk).1, w1, Option.bind_some, w2.read rfl, Option.bind_some, hx2, Option.bind_some, EqualP_ok _ _ (by omega), Option.bind_some]
    try simp -implicitDefEqProofs only [decide_true, Bool.not_true, cond_false]
    rw [i64_succ (by omega)]
    exact guardO_pos (show 0 ≤ (k : Int) ∧ (k : Int) < (xs.length : Int) by omega) _
  · intro ho
    have hcl := closeOf_none hp ho
    refine ⟨hL (sl ++ e1 ++ e2), ?_⟩
    unfold spilelaw50_PeriodOpen.loop1
    try simp -implicitDefEqProofs only [rowSV_len, hw]
    rw [decide_eq_true (show (i : Int) < (l.length : Int) + 1 by omega), cond_true, c1, Option.bind_some]
    try simp -implicitDefEqProofs only []
    rw [a1.read rfl, Option.bind_some, Charged_ok, Option.bind_some]
    try simp -implicitDefEqProofs only []
    rw [c2, Option.bind_some]
    try simp -implicitDefEqProofs only []
    rw [a2.read rfl, Option.bind_some, Close_ok, hcl, Option.bind_some]
    try simp -implicitDefEqProofs only []
    have hc := hcond 11 _ (fun _ => rfl) rfl
    simp only [Bool.not_not] at hc ⊢
    rw [hc]
    try simp -implicitDefEqProofs only [Option.bind_some, decide_true, Bool.not_true, cond_false]
    rw [decide_eq_false (show ¬ (11 : Int) = 0 by omega)]
    try simp -implicitDefEqProofs only [Bool.not_false, cond_true]
    rw [ContainsFunc_acc hacc3 isOpen (by omega) (fun x _ R k => q1 _ x k), ho]
    rfl
end Go.Proofs.YtedhmdocimkldaaDoor
/- The law PeriodSettles: what it needs in plain numbers. Conditions: none. -/
namespace Go.Proofs.YtedhmdocimkldaaDoor
open Go Go.Proofs.YtedhmdocimkldaaDoor.Ev
set_option linter.unusedVariables false
set_option linter.unusedSimpArgs false
set_option maxRecDepth 100000
set_option maxHeartbeats 4000000
theorem adj_D {a b : St} (ha : fitS a) (hb : fitS b) : AdjD (idsOf a) (idsOf b) (adjOf (idsOf a) (idsOf b)) := by
  obtain ⟨sl, s, o, h⟩ := acc_any (a.2.2.1.map itemOf ++ b.2.2.1.map itemOf)
  obtain ⟨x, hx, y, sl', o', out, -, hacc, hadj, hlen⟩ := outer_ok (a := a) (b := b) (fa := false) (fb := false) ha.1 hb.1 h
  rw [adjOf_dut ha.2 hb.2 hadj]
  exact hadj
theorem adjD_neg {la lb ts : List (Int × Int)} (h : AdjD la lb ts) : AdjD lb la (ts.map fun p => (p.1, -p.2)) := by
  refine ⟨fun p => ?_, ?_⟩
  · rw [List.mem_map]
    constructor
    · rintro ⟨q, hq, rfl⟩
      have := (h.1 q).1 hq
      exact ⟨by show -q.2 = dut la q.1 - dut lb q.1; rw [this.1]; omega, by have := this.2; show ¬ -q.2 = 0; omega⟩
    · rintro ⟨h1, h2⟩
      exact ⟨(p.1, -p.2), (h.1 _).2 ⟨by show -p.2 = _; rw [h1]; show _ = dut lb p.1 - dut la p.1; omega, by show ¬ -p.2 = 0; omega⟩, by obtain ⟨p1, p2⟩ := p; simp⟩
  · rw [List.pairwise_map]; exact h.2
theorem adjD_self {la ts : List (Int × Int)} (h : AdjD la la ts) : ts = [] := by
  cases ts with
  | nil => rfl
  | cons p ts => have := (h.1 p).1 (by simp); omega
theorem adj_neg {a b : St} (ha : fitS a) (hb : fitS b) : adjOf (idsOf b) (idsOf a) = (adjOf (idsOf a) (idsOf b)).map fun p => (p.1, -p.2) := adjOf_dut hb.2 ha.2 (adjD_neg (adj_D ha hb))
theorem adj_self {a : St} (ha : fitS a) : adjOf (idsOf a) (idsOf a) = [] := adjD_self (adj_D ha ha)
/-- The sum over keys. -/
def sumK (f : Int → Int) (K : List Int) : Int := (K.map f).sum
theorem sumK_cons {f : Int → Int} {k : Int} {K : List Int} : sumK f (k :: K) = f k + sumK f K := by simp [sumK]
theorem sumK_congr {f g : Int → Int} {K : List Int} (h : ∀ k ∈ K, f k = g k) : sumK f K = sumK g K := by
  unfold sumK; rw [List.map_congr_left h]
theorem sumK_sub {f g : Int → Int} {K : List Int} : sumK (fun k => f k - g k) K = sumK f K - sumK g K := by
  induction K with
  | nil => simp [sumK]
  | cons k K ih => rw [sumK_cons, sumK_cons, sumK_cons, ih]; omega
theorem sumK_one {f : Int → Int} {k n : Int} {K : List Int} (hn : K.Nodup) (hk : k ∈ K) (h0 : f k = 0) : sumK (fun x => if x = k then n else f x) K = n + sumK f K := by
  induction K with
  | nil => simp at hk
  | cons x K ih =>
    rw [sumK_cons, sumK_cons]
    have hn' := List.nodup_cons.1 hn
    by_cases hx : x = k
    · subst hx
      rw [if_pos rfl, h0, sumK_congr (g := f) (fun y hy => if_neg (fun e => hn'.1 (by rw [← e]; exact hy)))]
      omega
    · rw [if_neg hx, ih hn'.2 (by simp only [List.mem_cons] at hk; rcases hk with rfl | hk; exact absurd rfl hx; exact hk)]
      omega
theorem dut_cons {l : List (Int × Int)} {k n x : Int} : dut ((k, n) :: l) x = if x = k then n else dut l x := by
  unfold dut
  rw [List.find?_cons]
  by_cases h : x = k
  · subst h; simp
  · rw [if_neg h, decide_eq_false (show ¬ (k = x) from fun e => h e.symm)]
theorem sumK_dut {l : List (Int × Int)} {K : List Int} (hn : K.Nodup) (hl : (l.map Prod.fst).Nodup) (hs : ∀ k ∈ l.map Prod.fst, k ∈ K) : sumK (dut l) K = sumD l := by
  induction l with
  | nil =>
    clear hn hl hs
    show sumK (dut []) K = 0
    induction K with
    | nil => rfl
    | cons k K ih => rw [sumK_cons, ih]; rfl
  | cons p l ih =>
    obtain ⟨k, n⟩ := p
    have hl' := List.nodup_cons.1 (show (k :: l.map Prod.fst).Nodup from hl)
    rw [sumK_congr (g := fun x => if x = k then n else dut l x) (fun x _ => dut_cons), sumK_one hn (hs k (by simp)) (dut_none hl'.1), ih hl'.2 (fun x hx => hs x (by simp at hx ⊢; exact .inr hx))]
    simp [sumD]
theorem adjD_sum {la lb ts : List (Int × Int)} (ha : (la.map Prod.fst).Nodup) (hb : (lb.map Prod.fst).Nodup) (h : AdjD la lb ts) : sumD ts = sumD lb - sumD la := by
  have hts : (ts.map Prod.fst).Nodup := by
    rw [List.nodup_iff_pairwise_ne, List.pairwise_map]
    exact h.2.imp fun hxy => by omega
  let K := la.map Prod.fst ++ (lb.map Prod.fst).filter fun k => decide (k ∉ la.map Prod.fst)
  have hK : K.Nodup := by
    rw [List.nodup_append]
    refine ⟨ha, hb.filter _, fun x hx y hy => ?_⟩
    have := of_decide_eq_true (List.mem_filter.1 hy).2
    exact fun e => this (e ▸ hx)
  have hKa : ∀ k ∈ la.map Prod.fst, k ∈ K := fun k hk => List.mem_append_left _ hk
  have hKb : ∀ k ∈ lb.map Prod.fst, k ∈ K := fun k hk => by
    by_cases h2 : k ∈ la.map Prod.fst
    · exact hKa k h2
    · exact List.mem_append_right _ (List.mem_filter.2 ⟨hk, decide_eq_true h2⟩)
  have hKt : ∀ k ∈ ts.map Prod.fst, k ∈ K := fun k hk => by
    obtain ⟨p, hp, rfl⟩ := List.mem_map.1 hk
    have h3 := (h.1 p).1 hp
    by_cases h1 : p.1 ∈ la.map Prod.fst
    · exact hKa _ h1
    by_cases h2 : p.1 ∈ lb.map Prod.fst
    · exact hKb _ h2
    rw [dut_none h1, dut_none h2] at h3
    exact absurd h3.1 h3.2
  rw [← sumK_dut hK hts hKt, ← sumK_dut hK hb hKb, ← sumK_dut hK ha hKa, ← sumK_sub]
  refine sumK_congr fun k _ => ?_
  by_cases h1 : dut lb k - dut la k = 0
  · rw [h1]
    by_cases h2 : k ∈ ts.map Prod.fst
    · obtain ⟨p, hp, rfl⟩ := List.mem_map.1 h2
      have := (h.1 p).1 hp
      omega
    · exact dut_none h2
  · exact dut_mem hts ((h.1 (k, dut lb k - dut la k)).2 ⟨rfl, h1⟩)
theorem adj_sum {a b : St} (ha : fitS a) (hb : fitS b) : sumD (adjOf (idsOf a) (idsOf b)) = sumD (idsOf b) - sumD (idsOf a) := adjD_sum ha.2 hb.2 (adj_D ha hb)
theorem adj_nz {a b : St} (ha : fitS a) (hb : fitS b) : ∀ p ∈ adjOf (idsOf a) (idsOf b), p.2 ≠ 0 := fun p hp => (((adj_D ha hb).1 p).1 hp).2
theorem id_top {s : St} (h : faultOf s = 0) {c : Ch} (hc : c ∈ s.2.2.1) : c.1 ≤ 1125899906842624 := ((fault_good h).2 _ (by unfold numsS; exact List.mem_append_right _ (List.mem_flatMap.2 ⟨c, hc, by simp⟩))).2
theorem adj_okA {a b : St} (ha : fitS a) (hb : fitS b) (h1 : ∀ p ∈ adjOf (idsOf a) (idsOf b), 1 ≤ p.1) : (adjOf (idsOf a) (idsOf b)).all okA = true := by
  refine List.all_eq_true.2 fun p hp => okA_iff.2 ?_
  obtain ⟨e, hne⟩ := ((adj_D ha hb).1 p).1 hp
  obtain ⟨c, hc, hk⟩ := diff_id (a := a) (b := b) (k := p.1) (by show dut (idsOf b) p.1 - dut (idsOf a) p.1 ≠ 0; omega)
  have b1 := dut_bound ha.1 p.1
  have b2 := dut_bound hb.1 p.1
  have := h1 p hp
  refine ⟨⟨this, ?_⟩, by omega, by omega⟩
  rw [← hk]
  rcases List.mem_append.1 hc with h | h
  · exact id_top ha.1 h
  · exact id_top hb.1 h
theorem adj_upA {a b : St} (ha : fitS a) (hb : fitS b) : upA (adjOf (idsOf a) (idsOf b)) = true := by
  refine up_yes fun i hi => ?_
  unfold downA
  refine decide_eq_false fun ⟨h0, h1⟩ => ?_
  have hp := List.pairwise_iff_getElem.1 (adj_D ha hb).2 (i - 1) i (by omega) hi (by omega)
  have e1 : aq (adjOf (idsOf a) (idsOf b)) i = (adjOf (idsOf a) (idsOf b))[i] := by unfold aq; rw [List.getElem?_eq_getElem hi]; rfl
  have e2 : aq (adjOf (idsOf a) (idsOf b)) (i - 1) = (adjOf (idsOf a) (idsOf b))[i - 1]'(by omega) := by unfold aq; rw [List.getElem?_eq_getElem (by omega)]; rfl
  rw [e1, e2] at h1
  omega
theorem settle_adj {a b : St} (ha : fitS a) (hb : fitS b) (h1 : ∀ p ∈ adjOf (idsOf a) (idsOf b), 1 ≤ p.1) (ta : a.2.2.2 = sumD (idsOf a)) (tb : b.2.2.2 = sumD (idsOf b)) : settleOf a (adjOf (idsOf a) (idsOf b)) = (b.2.2.2, 0) := by
  have hb2 := (fault_good hb.1).2 b.2.2.2 (by unfold numsS; simp)
  have e : a.2.2.2 + sumD (adjOf (idsOf a) (idsOf b)) = b.2.2.2 := by rw [adj_sum ha hb, ta, tb]; omega
  unfold settleOf
  rw [if_pos ha, if_neg (by have := adj_len ha hb; omega), if_pos (adj_okA ha hb h1), if_pos (adj_upA ha hb), e, if_pos hb2]
theorem sum_take {s : St} (h : faultOf s = 0) (i : Nat) (hi : i ≤ s.2.2.1.length) : 0 ≤ sumD ((idsOf s).take i) ∧ sumD ((idsOf s).take i) ≤ i * 1125899906842624 := by
  induction i with
  | zero => simp [sumD]
  | succ i ih =>
    have hl : i < (idsOf s).length := by unfold idsOf; rw [List.length_map]; omega
    rw [sumD_succ hl]
    have := ih (by omega)
    have e : aq (idsOf s) i = (idsOf s)[i] := by unfold aq; rw [List.getElem?_eq_getElem hl]; rfl
    obtain ⟨c, hc, hce⟩ := List.mem_map.1 (show (idsOf s)[i] ∈ idsOf s from List.getElem_mem hl)
    have hb := (fault_good h).2 _ (show c.2.2.2.2.2.2.2 ∈ numsS s by unfold numsS; exact List.mem_append_right _ (List.mem_flatMap.2 ⟨c, hc, by simp⟩))
    rw [e, ← hce]
    show _ ∧ _
    dsimp only
    omega
end Go.Proofs.YtedhmdocimkldaaDoor
/- The law PeriodSettles in plain numbers. Conditions: items and duties are numbers of 64 bits. -/
namespace Go.Proofs.YtedhmdocimkldaaDoor
open Go Go.Proofs.YtedhmdocimkldaaDoor.Ev
set_option linter.unusedVariables false
set_option linter.unusedSimpArgs false
set_option maxRecDepth 100000
set_option maxHeartbeats 4000000
theorem one1_ok (p : Int × Int) : spilelaw50_PeriodSettles_2P p = some (decide (p.1 < 1)) := by
  obtain ⟨a, b⟩ := p
  unfold spilelaw50_PeriodSettles_2P spilelaw50_PeriodSettles_2
  try simp -implicitDefEqProofs only [evs, reduceIte, rdRes, rdTT, rdTy, rdLT, Res.un, TT.un, Ty.un, LT.un, Leaf.un, Leaf.plain, LT.plain, evh, List.replicate, splice, LT.pack, Leaf.pack, Nat.reduceAdd, Nat.reduceSub, Nat.reduceLeDiff, Nat.reduceLT, Nat.reduceEqDiff, LT.lo, Leaf.lo]
theorem ContainsFunc_adj {f : Bool} {xs : List (Int × Int)} {h : H} (hn : xs.length < 2 ^ 63) :
    slices_ContainsFunc_api_Adjustment_api_Adjustment spilelaw50_PeriodSettles.tb (rowSV f PA xs) (.func 38 []) h = some ((xs.findIdx? fun p => decide (p.1 < 1)).isSome, h) := by
  have hi : slices_IndexFunc_api_Adjustment_api_Adjustment (slices_ContainsFunc_api_Adjustment_api_Adjustment.tb spilelaw50_PeriodSettles.tb) (rowSV f PA xs) (.func 38 []) h = some ((match xs.findIdx? fun p => decide (p.1 < 1) with | some i => (i : Int) | none => -1), h) := by
    unfold slices_IndexFunc_api_Adjustment_api_Adjustment
    rw [iter_find xs (fun p => decide (p.1 < 1)) (fun i => (i : Int)) hn (fun i x hx => by
      obtain ⟨hlt, hx'⟩ := List.getElem?_eq_some_iff.1 hx
      have hq : aq xs i = x := by unfold aq; rw [hx]; rfl
      unfold slices_IndexFunc_api_Adjustment_api_Adjustment.loop1
      try simp -implicitDefEqProofs only [rowSV_len, Int.toNat_natCast]
      rw [decide_eq_true (by omega), cond_true, guardO_pos (by omega), rds_aq hlt, hq]
      try simp -implicitDefEqProofs only [Option.bind_some]
      have hc : ∀ {R : Type} (k : V → H → Option R), callV (slices_ContainsFunc_api_Adjustment_api_Adjustment.tb spilelaw50_PeriodSettles.tb).dy (.func 38 []) [.agg [.int .i64 x.1, .int .i64 x.2]] h k = k (.bool (decide (x.1 < 1))) h := fun k => by
        obtain ⟨a, b⟩ := x
        show (spilelaw50_PeriodSettles_2P (a, b)).bind (fun r => k ((Res.one (.leaf .bool)).lo true r) _) = _
        rw [one1_ok]; rfl
      rw [hc]
      try simp -implicitDefEqProofs only [Res.pack, Ty.pack, Leaf.pack, Option.bind_some]
      rw [i64_succ (by omega)]
      cases decide (x.1 < 1) <;> rfl) (by
      unfold slices_IndexFunc_api_Adjustment_api_Adjustment.loop1
      try simp -implicitDefEqProofs only [rowSV_len]
      rw [decide_eq_false (by omega), cond_false])]
    cases xs.findIdx? (fun p => decide (p.1 < 1)) <;> rfl
  unfold slices_ContainsFunc_api_Adjustment_api_Adjustment
  rw [hi]
  simp only [Option.bind_some]
  cases xs.findIdx? (fun p => decide (p.1 < 1)) with
  | none => rfl
  | some i => simp
theorem sum1_ok {s : St} (hf : faultOf s = 0) : spilelaw50_PeriodSettles_1P s = some (sumD (idsOf s)) := by
  obtain ⟨a, b, cs, t⟩ := s
  have hl : cs.length ≤ 64 := (fault_good hf).1
  have rs := (rd_cS (sl := [cS (a, b, rowSV false CH cs, t)]) (id := 0) (s := (a, b, rowSV false CH cs, t)) rfl).2.2.1
  unfold spilelaw50_PeriodSettles_1P spilelaw50_PeriodSettles_1
  try simp -implicitDefEqProofs only [hL_empty, hL_new, hL_next, List.nil_append, List.length_nil]
  simp only [cS] at rs
  rw [rs]
  try simp -implicitDefEqProofs only [Option.bind_some]
  have hids : (idsOf (a, b, cs, t)).length = cs.length := by unfold idsOf; rw [List.length_map]
  obtain ⟨x, hx, sl, rfl⟩ := iter_early (f := spilelaw50_PeriodSettles_1.loop1 (rowSV false CH cs)) (fun i st => ∃ sl, st = ((sumD ((idsOf (a, b, cs, t)).take i), (i : Int)), hL sl))
    (fun x => ∃ sl, x = (.ex0 (sumD (idsOf (a, b, cs, t))), hL sl)) cs.length (fun i st hi hst => by
      obtain ⟨sl, rfl⟩ := hst
      have hb := sum_take hf i (Nat.le_of_lt hi)
      have hb2 := sum_take hf (i + 1) hi
      have hs := sumD_succ (xs := idsOf (a, b, cs, t)) (i := i) (by omega)
      have hq : (aq (idsOf (a, b, cs, t)) i).2 = (cq cs i).2.2.2.2.2.2.2 := by
        unfold aq; rw [ids_get (s := (a, b, cs, t)) hi]; rfl
      have n1 : H.wrs (hL (sl ++ [.own [.int .i64 0, .int .i64 0, .int .i64 0, .int .i64 0, .int .i64 0, .int .i64 0, .int .i64 0, .int .i64 0] 8])) (.hp sl.length 8 0) (cellsC (cq cs i)) = some (hL (sl ++ [cC (cq cs i)])) := by
        rw [wrs_own (g := 8) (cs := [.int .i64 0, .int .i64 0, .int .i64 0, .int .i64 0, .int .i64 0, .int .i64 0, .int .i64 0, .int .i64 0]) (e := 8) (by simp) rfl (by simp [cellsC])]
        simp [splice, cellsC]
      have r1 : rdT (.leaf (.int .i64)) (hL (sl ++ [cC (cq cs i)])) (.hp sl.length 8 7) = some (cq cs i).2.2.2.2.2.2.2 := by rw [rd_own (g := 8) (cs := cellsC (cq cs i)) (e := 8) (by simp) rfl]; rfl
      unfold spilelaw50_PeriodSettles_1.loop1
      try simp -implicitDefEqProofs only [rowSV_len, Int.toNat_natCast]
      rw [decide_eq_true (show (i : Int) < (cs.length : Int) by omega), cond_true, guardO_pos (by omega), rds_cq hi]
      try simp -implicitDefEqProofs only [Option.bind_some, hL_new, hL_next]
      simp only [cellsC] at n1
      rw [n1]
      try simp -implicitDefEqProofs only [Option.bind_some]
      rw [r1, Option.bind_some, i64_in _ (by omega), i64_succ (by omega)]
      exact .inl ⟨_, rfl, _, by rw [hs, hq]⟩) (fun st hst => by
      obtain ⟨sl, rfl⟩ := hst
      refine ⟨_, ?_, sl, rfl⟩
      unfold spilelaw50_PeriodSettles_1.loop1
      try simp -implicitDefEqProofs only [rowSV_len]
      rw [decide_eq_false (by omega), cond_false, ← hids, List.take_length]) FUEL 0 _ (Nat.zero_le _) ⟨_, rfl⟩ (fuel_gt (by omega))
  simp only [Int.natCast_zero, List.take_zero, sumD, List.map_nil, List.sum_nil, cS] at hx
  rw [hx]
  rfl
theorem signs_loop {xs : List (Int × Int)} {h : H} (hl : xs.length ≤ 128) (hb : ∀ p ∈ xs, p.2 ≠ 0 ∧ -1125899906842624 ≤ p.2 ∧ p.2 ≤ 1125899906842624) :
    iter FUEL (spilelaw50_PeriodSettles.loop1 xs (xs.map fun p => (p.1, -p.2))) (0, h) = some (.ex0 (), h) := by
  have hys : (xs.map fun p => (p.1, -p.2)).length = xs.length := List.length_map _
  have hz : H.reserve h 0 = h := rfl
  refine iter_run (fun i => ((i : Int), h)) xs.length FUEL (fun i hi => ?_) ?_ (fuel_gt (by omega))
  · have hq : aq (xs.map fun p => (p.1, -p.2)) i = ((aq xs i).1, -(aq xs i).2) := by
      have e := aq_eq hi
      unfold aq at e ⊢
      rw [List.getElem?_map, e]; rfl
    have hm := hb _ (List.mem_of_getElem? (aq_eq hi))
    have h0 : xs.length ≠ 0 := by omega
    have h1 : (xs.map fun p => (p.1, -p.2)).length ≠ 0 := by omega
    unfold spilelaw50_PeriodSettles.loop1
    try simp -implicitDefEqProofs only [Int.toNat_natCast, hz]
    rw [decide_eq_true (show (i : Int) < (xs.length : Int) by omega), cond_true]
    try simp -implicitDefEqProofs only [guardO_pos (show 0 ≤ (i : Int) ∧ (i : Int) < (xs.length : Int) by omega), guardO_pos (show 0 ≤ (i : Int) ∧ (i : Int) < (((xs.map fun p => (p.1, -p.2)).length : Nat) : Int) by omega), guardO_pos (nn_aq (f := true) (n := i * 2) h0), guardO_pos (nn_aq (f := true) (n := i * 2) h1), add_aq, (rd_aq (f := true) (h := h) hi).1, (rd_aq (f := true) (h := h) hi).2, (rd_aq (f := true) (h := h) (xs := xs.map fun p => (p.1, -p.2)) (i := i) (by omega)).1, (rd_aq (f := true) (h := h) (xs := xs.map fun p => (p.1, -p.2)) (i := i) (by omega)).2, hq, Option.bind_some]
    rw [decide_eq_false hm.1, i64_in (0 - -(aq xs i).2) (by omega), decide_eq_true (show (aq xs i).2 = 0 - -(aq xs i).2 by omega), i64_succ (by omega)]
    try simp -implicitDefEqProofs only [decide_true, Bool.not_false, Bool.not_true, cond_true, cond_false, Option.bind_some]
  · unfold spilelaw50_PeriodSettles.loop1
    try simp -implicitDefEqProofs only []
    rw [decide_eq_false (by omega), cond_false]
end Go.Proofs.YtedhmdocimkldaaDoor
/- The law PeriodSettles in plain numbers. Conditions: items and duties are numbers of 64 bits. -/
namespace Go.Proofs.YtedhmdocimkldaaDoor
open Go Go.Proofs.YtedhmdocimkldaaDoor.Ev
set_option linter.unusedVariables false
set_option linter.unusedSimpArgs false
set_option maxRecDepth 100000
set_option maxHeartbeats 4000000
open Classical in
theorem adjS_yes {a b : St} (ha : fitS a) (hb : fitS b) (h : a.1 = b.1 ∧ a.2.1 = b.2.1) : adjS a b = (adjOf (idsOf a) (idsOf b), 0) := by
  unfold adjS; rw [if_pos ⟨ha, hb⟩, if_pos h]
open Classical in
theorem adjS_no {a b : St} (h : ¬ (fitS a ∧ fitS b ∧ a.1 = b.1 ∧ a.2.1 = b.2.1)) : (adjS a b).1 = [] ∧ (adjS a b).2 ≠ 0 ∧ (adjS b a).2 = (adjS a b).2 := by
  unfold adjS
  by_cases h1 : fitS a ∧ fitS b
  · have hba : fitS b ∧ fitS a := ⟨h1.2, h1.1⟩
    have hno : ¬ (a.1 = b.1 ∧ a.2.1 = b.2.1) := fun e => h ⟨h1.1, h1.2, e⟩
    have hno2 : ¬ (b.1 = a.1 ∧ b.2.1 = a.2.1) := fun e => h ⟨h1.1, h1.2, e.1.symm, e.2.symm⟩
    rw [if_pos h1, if_neg hno, if_pos hba, if_neg hno2]
    exact ⟨rfl, by decide, rfl⟩
  · have hba : ¬ (fitS b ∧ fitS a) := fun e => h1 ⟨e.2, e.1⟩
    rw [if_neg h1, if_neg hba]
    exact ⟨rfl, by decide, rfl⟩
theorem adj_bound {a b : St} (ha : fitS a) (hb : fitS b) : ∀ p ∈ adjOf (idsOf a) (idsOf b), p.2 ≠ 0 ∧ -1125899906842624 ≤ p.2 ∧ p.2 ≤ 1125899906842624 := fun p hp => by
  obtain ⟨e, hne⟩ := ((adj_D ha hb).1 p).1 hp
  have b1 := dut_bound ha.1 p.1
  have b2 := dut_bound hb.1 p.1
  exact ⟨hne, by omega, by omega⟩
theorem settles_law (a b : St) (ha : wordS a) (hb : wordS b) : spilelaw50_PeriodSettlesP a b = some true := by
  obtain ⟨a0, a1, a2, a3⟩ := a
  obtain ⟨b0, b1, b2, b3⟩ := b
  have q := rd2 (s := (a0, a1, rowSV false CH a2, a3)) (t := (b0, b1, rowSV false CH b2, b3))
  have fa := rd_cS (sl := [cS (a0, a1, rowSV false CH a2, a3), cS (b0, b1, rowSV false CH b2, b3)]) (id := 0) (s := (a0, a1, rowSV false CH a2, a3)) rfl
  have fb := rd_cS (sl := [cS (a0, a1, rowSV false CH a2, a3), cS (b0, b1, rowSV false CH b2, b3)]) (id := 1) (s := (b0, b1, rowSV false CH b2, b3)) rfl
  have hy : ∀ (xs : List Ch) h, rdRow true h CH (rowSV false CH xs) = some xs := fun xs h => rdRow_args rfl
  have hx : ∀ (xs : List Ch) h, rdRow true h CH (rowSV true CH xs) = some xs := fun xs h => rdRow_res rfl
  have hxA : ∀ (xs : List (Int × Int)) h, rdRow true h PA (rowSV true PA xs) = some xs := fun xs h => rdRow_res rfl
  simp only [cS] at q fa fb
  unfold spilelaw50_PeriodSettlesP spilelaw50_PeriodSettles
  rw [awake50]
  try simp -implicitDefEqProofs only [Option.bind_some, Bool.not_true, Bool.not_false, cond_true, hL_empty, hL_new, hL_next, List.nil_append, List.length_nil, List.cons_append, List.length_cons, Nat.zero_add, reserve0]
  rw [q.1]
  try simp -implicitDefEqProofs only [Option.bind_some, hy, FewS_ok]
  cases hfa : fewS (a0, a1, a2, a3) with
  | false => rfl
  | true =>
    try simp -implicitDefEqProofs only [Bool.not_true, Bool.not_false, cond_true]
    rw [q.2]
    try simp -implicitDefEqProofs only [Option.bind_some, hy, FewS_ok]
    cases hfb : fewS (b0, b1, b2, b3) with
    | false => rfl
    | true =>
      try simp -implicitDefEqProofs only [Bool.not_true, Bool.not_false, cond_true, fa.2.2.1, Option.bind_some]
      by_cases h14 : a2.length ≤ 14
      · rw [decide_eq_false (show ¬ (14 : Int) < (((rowSV false CH a2).len : Nat) : Int) by rw [rowSV_len]; omega)]
        try simp -implicitDefEqProofs only [Bool.not_false, cond_true, fb.2.2.1, Option.bind_some]
        by_cases h14b : b2.length ≤ 14
        · rw [decide_eq_false (show ¬ (14 : Int) < (((rowSV false CH b2).len : Nat) : Int) by rw [rowSV_len]; omega)]
          have cpa := cp_ok (s := (a0, a1, a2, a3)) (by show a2.length ≤ _; omega)
          have cpb := cp_ok (s := (b0, b1, b2, b3)) (by show b2.length ≤ _; omega)
          have ia := inS_of hfa ha
          have ib := inS_of hfb hb
          try simp -implicitDefEqProofs only [Option.bind_some, cond_false, Bool.not_true, reserve0, q.1, q.2, hy, hx, hxA, cpa, cpb, PAdj ia ib, PAdj ib ia]
          by_cases hok : fitS (a0, a1, a2, a3) ∧ fitS (b0, b1, b2, b3) ∧ a0 = b0 ∧ a1 = b1
          · obtain ⟨fia, fib, e0, e1⟩ := hok
            have had := adjS_yes fia fib ⟨e0, e1⟩
            have hda := adjS_yes fib fia ⟨e0.symm, e1.symm⟩
            have haa := adjS_yes fia fia ⟨rfl, rfl⟩
            rw [adj_neg fia fib] at hda
            rw [adj_self fia] at haa
            have hlen := adj_len fia fib
            try simp -implicitDefEqProofs only [had, hda, PAdj ia ia, haa, Option.bind_some, decide_true, Bool.not_true, Bool.not_false, cond_false, cond_true, List.length_nil, List.length_map, Int.natCast_zero]
            rw [signs_loop hlen (adj_bound fia fib)]
            try simp -implicitDefEqProofs only [Option.bind_some, fa.2.2.2, fb.2.2.2, sum1_ok fia.1, sum1_ok fib.1, reserve0, q.1, q.2, hy]
            by_cases ta : a3 = sumD (idsOf (a0, a1, a2, a3))
            · rw [decide_eq_true ta]
              try simp -implicitDefEqProofs only [Bool.not_true, Bool.not_false, cond_true, Option.bind_some]
              by_cases tb : b3 = sumD (idsOf (b0, b1, b2, b3))
              · rw [decide_eq_true tb]
                try simp -implicitDefEqProofs only [Bool.not_true, cond_false, Option.bind_some]
                rw [ContainsFunc_adj (by omega)]
                try simp -implicitDefEqProofs only [Option.bind_some]
                cases hfi : (adjOf (idsOf (a0, a1, a2, a3)) (idsOf (b0, b1, b2, b3))).findIdx? fun p => decide (p.1 < 1) with
                | some i => rfl
                | none =>
                  have h1 : ∀ p ∈ adjOf (idsOf (a0, a1, a2, a3)) (idsOf (b0, b1, b2, b3)), 1 ≤ p.1 := fun p hp => by
                    have := List.findIdx?_eq_none_iff.1 hfi p hp
                    have := of_decide_eq_false this
                    omega
                  have hst := settle_adj fia fib h1 ta tb
                  try simp -implicitDefEqProofs only [Option.isSome_none, cond_false, q.1, Option.bind_some, hy, hx, hxA, cpa, Settle_ok ia, hst, decide_true, cond_true, fb.2.2.2]
                  rfl
              · rw [decide_eq_false tb]; rfl
            · rw [decide_eq_false ta]; rfl
          · obtain ⟨n1, n2, n3⟩ := adjS_no (a := (a0, a1, a2, a3)) (b := (b0, b1, b2, b3)) hok
            rw [decide_eq_false n2, n1, n3]
            try simp -implicitDefEqProofs only [Bool.not_false, cond_true, List.length_nil, Int.natCast_zero, decide_true, Option.bind_some]
            rfl
        · rw [decide_eq_true (show (14 : Int) < (((rowSV false CH b2).len : Nat) : Int) by rw [rowSV_len]; omega)]
          rfl
      · rw [decide_eq_true (show (14 : Int) < (((rowSV false CH a2).len : Nat) : Int) by rw [rowSV_len]; omega)]
        rfl
end Go.Proofs.YtedhmdocimkldaaDoor
/- The laws over statements. Conditions: the numbers fit their types. -/
namespace Go.Proofs.YtedhmdocimkldaaDoor
open Go Go.Proofs.YtedhmdocimkldaaDoor.Ev
theorem word_of {cs : List Ch} (h : Leaf.ok (.row CH) cs) {a b t : Int} : wordS (a, b, cs, t) := fun c hc => by
  have := h.2 c hc
  exact ⟨wf_i64 this.1, wf_i64 this.2.2.2.2.2.2.2⟩
theorem PeriodAdjusts_ok (a b : St) (l : List (Int × Int)) (h : TT.ok [.agg [.int .i64, .int .i64, .row CH, .int .i64], .agg [.int .i64, .int .i64, .row CH, .int .i64], .leaf (.row PA)] (a, b, l)) : spilelaw50_PeriodAdjustsP a b l = some true :=
  adjusts_law a b l (word_of h.1.2.2.1) (word_of h.2.1.2.2.1)
theorem PeriodSettles_ok (a b : St) (h : TT.ok [.agg [.int .i64, .int .i64, .row CH, .int .i64], .agg [.int .i64, .int .i64, .row CH, .int .i64]] (a, b)) : spilelaw50_PeriodSettlesP a b = some true :=
  settles_law a b (word_of h.1.2.2.1) (word_of h.2.2.2.1)
end Go.Proofs.YtedhmdocimkldaaDoor
