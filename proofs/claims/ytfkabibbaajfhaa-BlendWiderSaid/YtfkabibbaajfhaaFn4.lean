/- The functions of the program as Lean functions, each with the equation by which the evaluator is that function. Written by a program of this session (evdrive.py). Conditions: none. -/
import Derived.Test.YtfkabibbaajfhaaProg
import Derived.Test.YtfkabibbaajfhaaEvSpec
import Derived.Test.YtfkabibbaajfhaaFn3
namespace Go.Proofs.Ytfkabibbaajfhaa
open Go Go.Proofs.Ytfkabibbaajfhaa.Ev
set_option maxRecDepth 100000
set_option linter.unusedVariables false
/-! ### slices.partialInsertionSortCmpFunc[[2]int]: function 90 -/
noncomputable def slices_partialInsertionSortCmpFunc_2_int.tb (T : Table) : Table := tab [] [] T
theorem slices_partialInsertionSortCmpFunc_2_int.tbok (T : Table) (hT : TabOK Try.prog T) : TabOK Try.prog (slices_partialInsertionSortCmpFunc_2_int.tb T) := TabOK.tab (hT) (all_nil _) (all_nil _)
noncomputable def slices_partialInsertionSortCmpFunc_2_int.loop1 (T : Table) (a0 : SV) (a2 : Int) (a3 : V) : (Int) × H → Option (Stp ((Int) × H) (Flow (Int) (Bool) × H)) := fun (y4, h5) =>
(((let h6 : H := H.reserve h5 0
(bif (decide (y4 < a2)) then (guardO (0 ≤ y4 ∧ y4 < ((a0.len : Nat) : Int)) ((rdT (.agg [.int .i64, .int .i64]) h6 (V.add a0.a (Int.toNat y4 * 2))).bind fun (x7_0, x7_1) =>
(guardO (0 ≤ (IntKind.wrap .i64 (y4 - 1)) ∧ (IntKind.wrap .i64 (y4 - 1)) < ((a0.len : Nat) : Int)) ((rdT (.agg [.int .i64, .int .i64]) h6 (V.add a0.a (Int.toNat (IntKind.wrap .i64 (y4 - 1)) * 2))).bind fun (x8_0, x8_1) =>
(callV T.dy a3 [.agg [.int .i64 x7_0, .int .i64 x7_1], .agg [.int .i64 x8_0, .int .i64 x8_1]] h6 fun v9 h10 =>
(Res.pack (.one (.leaf (.int .i64))) v9).bind fun r11 =>
(some ((!(decide (r11 < 0))), h10))))))) else (some (false, h6))))).bind fun (y12, h13) =>
(bif y12 then (some (.more ((IntKind.wrap .i64 (y4 + 1)), h13))) else (some (.done (.ex0 y4, h13)))))
noncomputable def slices_partialInsertionSortCmpFunc_2_int.loop2 (T : Table) (a0 : SV) (a3 : V) : (Int) × H → Option (Stp ((Int) × H) (Flow (Unit) (Bool) × H)) := fun (y23, h24) =>
(bif (decide ((1 : Int) ≤ y23)) then (let h25 : H := H.reserve h24 0
(guardO (0 ≤ y23 ∧ y23 < ((a0.len : Nat) : Int)) ((rdT (.agg [.int .i64, .int .i64]) h25 (V.add a0.a (Int.toNat y23 * 2))).bind fun (x26_0, x26_1) =>
(guardO (0 ≤ (IntKind.wrap .i64 (y23 - 1)) ∧ (IntKind.wrap .i64 (y23 - 1)) < ((a0.len : Nat) : Int)) ((rdT (.agg [.int .i64, .int .i64]) h25 (V.add a0.a (Int.toNat (IntKind.wrap .i64 (y23 - 1)) * 2))).bind fun (x27_0, x27_1) =>
(callV T.dy a3 [.agg [.int .i64 x26_0, .int .i64 x26_1], .agg [.int .i64 x27_0, .int .i64 x27_1]] h25 fun v28 h29 =>
(Res.pack (.one (.leaf (.int .i64))) v28).bind fun r30 =>
(bif (!(decide (r30 < 0))) then (some (.done (.ex0 (), h29))) else (let h31 : H := H.reserve h29 0
(guardO (0 ≤ (IntKind.wrap .i64 (y23 - 1)) ∧ (IntKind.wrap .i64 (y23 - 1)) < ((a0.len : Nat) : Int)) ((rdT (.agg [.int .i64, .int .i64]) h31 (V.add a0.a (Int.toNat (IntKind.wrap .i64 (y23 - 1)) * 2))).bind fun (x32_0, x32_1) =>
(guardO (0 ≤ y23 ∧ y23 < ((a0.len : Nat) : Int)) ((rdT (.agg [.int .i64, .int .i64]) h31 (V.add a0.a (Int.toNat y23 * 2))).bind fun (x33_0, x33_1) =>
(guardO (0 ≤ y23 ∧ y23 < ((a0.len : Nat) : Int)) ((H.wrs h31 (V.add a0.a (Int.toNat y23 * 2)) [.int .i64 x32_0, .int .i64 x32_1]).bind fun h34 =>
(guardO (0 ≤ (IntKind.wrap .i64 (y23 - 1)) ∧ (IntKind.wrap .i64 (y23 - 1)) < ((a0.len : Nat) : Int)) ((H.wrs h34 (V.add a0.a (Int.toNat (IntKind.wrap .i64 (y23 - 1)) * 2)) [.int .i64 x33_0, .int .i64 x33_1]).bind fun h35 =>
(some (.more ((IntKind.wrap .i64 (y23 - 1)), h35))))))))))))))))))) else (some (.done (.ex0 (), h24))))
noncomputable def slices_partialInsertionSortCmpFunc_2_int.loop3 (T : Table) (a0 : SV) (a2 : Int) (a3 : V) : (Int) × H → Option (Stp ((Int) × H) (Flow (Unit) (Bool) × H)) := fun (y41, h42) =>
(bif (decide (y41 < a2)) then (let h43 : H := H.reserve h42 0
(guardO (0 ≤ y41 ∧ y41 < ((a0.len : Nat) : Int)) ((rdT (.agg [.int .i64, .int .i64]) h43 (V.add a0.a (Int.toNat y41 * 2))).bind fun (x44_0, x44_1) =>
(guardO (0 ≤ (IntKind.wrap .i64 (y41 - 1)) ∧ (IntKind.wrap .i64 (y41 - 1)) < ((a0.len : Nat) : Int)) ((rdT (.agg [.int .i64, .int .i64]) h43 (V.add a0.a (Int.toNat (IntKind.wrap .i64 (y41 - 1)) * 2))).bind fun (x45_0, x45_1) =>
(callV T.dy a3 [.agg [.int .i64 x44_0, .int .i64 x44_1], .agg [.int .i64 x45_0, .int .i64 x45_1]] h43 fun v46 h47 =>
(Res.pack (.one (.leaf (.int .i64))) v46).bind fun r48 =>
(bif (!(decide (r48 < 0))) then (some (.done (.ex0 (), h47))) else (let h49 : H := H.reserve h47 0
(guardO (0 ≤ (IntKind.wrap .i64 (y41 - 1)) ∧ (IntKind.wrap .i64 (y41 - 1)) < ((a0.len : Nat) : Int)) ((rdT (.agg [.int .i64, .int .i64]) h49 (V.add a0.a (Int.toNat (IntKind.wrap .i64 (y41 - 1)) * 2))).bind fun (x50_0, x50_1) =>
(guardO (0 ≤ y41 ∧ y41 < ((a0.len : Nat) : Int)) ((rdT (.agg [.int .i64, .int .i64]) h49 (V.add a0.a (Int.toNat y41 * 2))).bind fun (x51_0, x51_1) =>
(guardO (0 ≤ y41 ∧ y41 < ((a0.len : Nat) : Int)) ((H.wrs h49 (V.add a0.a (Int.toNat y41 * 2)) [.int .i64 x50_0, .int .i64 x50_1]).bind fun h52 =>
(guardO (0 ≤ (IntKind.wrap .i64 (y41 - 1)) ∧ (IntKind.wrap .i64 (y41 - 1)) < ((a0.len : Nat) : Int)) ((H.wrs h52 (V.add a0.a (Int.toNat (IntKind.wrap .i64 (y41 - 1)) * 2)) [.int .i64 x51_0, .int .i64 x51_1]).bind fun h53 =>
(some (.more ((IntKind.wrap .i64 (y41 + 1)), h53))))))))))))))))))) else (some (.done (.ex0 (), h42))))
noncomputable def slices_partialInsertionSortCmpFunc_2_int.loop4 (T : Table) (a0 : SV) (a1 : Int) (a2 : Int) (a3 : V) : (Int × Int) × H → Option (Stp ((Int × Int) × H) (Flow (Unit) (Bool) × H)) := fun ((y1, y2), h3) =>
(bif (decide (y2 < 5)) then ((iter FUEL (slices_partialInsertionSortCmpFunc_2_int.loop1 T a0 a2 a3) (y1, h3)).bind fun (fl15, h14) => match fl15 with
| .next _ => none
| .ret rr16 => (some (.done (.ret rr16, h14)))
| .ex0 y17 =>
(bif (decide (y17 = a2)) then (some (.done (.ret true, h14))) else (bif (decide ((IntKind.wrap .i64 (a2 - a1)) < 50)) then (some (.done (.ret false, h14))) else (let h18 : H := H.reserve h14 0
(guardO (0 ≤ (IntKind.wrap .i64 (y17 - 1)) ∧ (IntKind.wrap .i64 (y17 - 1)) < ((a0.len : Nat) : Int)) ((rdT (.agg [.int .i64, .int .i64]) h18 (V.add a0.a (Int.toNat (IntKind.wrap .i64 (y17 - 1)) * 2))).bind fun (x19_0, x19_1) =>
(guardO (0 ≤ y17 ∧ y17 < ((a0.len : Nat) : Int)) ((rdT (.agg [.int .i64, .int .i64]) h18 (V.add a0.a (Int.toNat y17 * 2))).bind fun (x20_0, x20_1) =>
(guardO (0 ≤ y17 ∧ y17 < ((a0.len : Nat) : Int)) ((H.wrs h18 (V.add a0.a (Int.toNat y17 * 2)) [.int .i64 x19_0, .int .i64 x19_1]).bind fun h21 =>
(guardO (0 ≤ (IntKind.wrap .i64 (y17 - 1)) ∧ (IntKind.wrap .i64 (y17 - 1)) < ((a0.len : Nat) : Int)) ((H.wrs h21 (V.add a0.a (Int.toNat (IntKind.wrap .i64 (y17 - 1)) * 2)) [.int .i64 x20_0, .int .i64 x20_1]).bind fun h22 =>
((bif (decide ((2 : Int) ≤ (IntKind.wrap .i64 (y17 - a1)))) then ((iter FUEL (slices_partialInsertionSortCmpFunc_2_int.loop2 T a0 a3) ((IntKind.wrap .i64 (y17 - 1)), h22)).bind fun (fl37, h36) => match fl37 with
| .next _ => none
| .ret rr38 => (some (.ret rr38, h36))
| .ex0 _ =>
(some (.next (), h36))
| .ex1 _ => none) else (some (.next (), h22)) : Option (Flow (Unit) (Bool) × H)).bind fun (fl40, h39) => match fl40 with
| .next _ =>
((bif (decide ((2 : Int) ≤ (IntKind.wrap .i64 (a2 - y17)))) then ((iter FUEL (slices_partialInsertionSortCmpFunc_2_int.loop3 T a0 a2 a3) ((IntKind.wrap .i64 (y17 + 1)), h39)).bind fun (fl55, h54) => match fl55 with
| .next _ => none
| .ret rr56 => (some (.ret rr56, h54))
| .ex0 _ =>
(some (.next (), h54))
| .ex1 _ => none) else (some (.next (), h39)) : Option (Flow (Unit) (Bool) × H)).bind fun (fl58, h57) => match fl58 with
| .next _ =>
(some (.more ((y17, (IntKind.wrap .i64 (y2 + 1))), h57)))
| .ret rr59 => (some (.done (.ret rr59, h57)))
| .ex0 _ => none
| .ex1 _ => none)
| .ret rr60 => (some (.done (.ret rr60, h39)))
| .ex0 _ => none
| .ex1 _ => none))))))))))))
| .ex1 _ => none) else (some (.done (.ex0 (), h3))))
noncomputable def slices_partialInsertionSortCmpFunc_2_int (T : Table) (a0 : SV) (a1 : Int) (a2 : Int) (a3 : V) (h : H) : Option ((Bool) × H) :=
((iter FUEL (slices_partialInsertionSortCmpFunc_2_int.loop4 T a0 a1 a2 a3) (((IntKind.wrap .i64 (a1 + 1)), 0), h)).bind fun (fl62, h61) => match fl62 with
| .next _ => none
| .ret rr63 => (some (rr63, h61))
| .ex0 _ =>
(some (false, h61))
| .ex1 _ => none)
def slices_partialInsertionSortCmpFunc_2_int.A : Ann := { lits := [], conds := [(65, [], [], none, none), (104, [], [], none, none)], loops := [(5, [9], [.leaf (.int .i64)], [9], [.leaf (.int .i64)], some 2, none), (14, [11], [.leaf (.int .i64)], [], [], some 4, none), (20, [12], [.leaf (.int .i64)], [], [], some 6, none), (3, [9, 10], [.leaf (.int .i64), .leaf (.int .i64)], [], [], some 0, none)], regs := [(5, [36], [.leaf .bool])] }
theorem slices_partialInsertionSortCmpFunc_2_int.eq (T : Table) : ∀ (x : TT [.leaf .slice, .leaf (.int .i64), .leaf (.int .i64), .leaf .dyn]) (h : H), evalFn Try.prog (slices_partialInsertionSortCmpFunc_2_int.tb T) slices_partialInsertionSortCmpFunc_2_int.A Try.f90 (.one (.leaf .bool)) (TT.un [.leaf .slice, .leaf (.int .i64), .leaf (.int .i64), .leaf .dyn] x) h = slices_partialInsertionSortCmpFunc_2_int T x.1 x.2.1 x.2.2.1 x.2.2.2 h := by
  intro x h
  kernel_rfl
noncomputable def slices_partialInsertionSortCmpFunc_2_int.e (T : Table) : Entry := mkX [.leaf .slice, .leaf (.int .i64), .leaf (.int .i64), .leaf .dyn] (.one (.leaf .bool)) fun x h => slices_partialInsertionSortCmpFunc_2_int T x.1 x.2.1 x.2.2.1 x.2.2.2 h
theorem slices_partialInsertionSortCmpFunc_2_int.ok (T : Table) (hT : TabOK Try.prog T) : EntryOK Try.prog 90 (slices_partialInsertionSortCmpFunc_2_int.e T) := mkX_ok (slices_partialInsertionSortCmpFunc_2_int.tbok T hT) Try.mixed Try.func90 (by kernel_rfl) (slices_partialInsertionSortCmpFunc_2_int.eq T)

/-! ### slices.pdqsortCmpFunc[[2]int]: function 73 -/
noncomputable def slices_pdqsortCmpFunc_2_int.tb (T : Table) : Table := tab [(86, Entry.none), (87, Entry.none), (88, Entry.none)] [] T
theorem slices_pdqsortCmpFunc_2_int.tbok (T : Table) (hT : TabOK Try.prog T) : TabOK Try.prog (slices_pdqsortCmpFunc_2_int.tb T) := TabOK.tab (hT) (all_cons (Entry.none_ok Try.prog 86) (all_cons (Entry.none_ok Try.prog 87) (all_cons (Entry.none_ok Try.prog 88) (all_nil _)))) (all_nil _)
noncomputable def slices_pdqsortCmpFunc_2_int.loop1 (T : Table) (a0 : SV) (a4 : V) : (Int × Int × Bool × Bool × Int) × H → Option (Stp ((Int × Int × Bool × Bool × Int) × H) (Flow (Unit) (Unit) × H)) := fun ((y1, y2, y3, y4, y5), h6) =>
(bif (decide ((IntKind.wrap .i64 (y5 - y2)) ≤ 12)) then ((slices_insertionSortCmpFunc_2_int (slices_pdqsortCmpFunc_2_int.tb T) a0 y2 y5 a4 h6).bind fun (_, h7) =>
(some (.done (.ret (), h7)))) else (bif (decide (y1 = 0)) then none else ((bif (!y4) then none else (some (.next y1, h6)) : Option (Flow (Int) (Unit) × H)).bind fun (fl9, h8) => match fl9 with
| .next y10 =>
none
| .ret rr11 => (some (.done (.ret rr11, h8)))
| .ex0 _ => none
| .ex1 _ => none)))
noncomputable def slices_pdqsortCmpFunc_2_int (T : Table) (a0 : SV) (a1 : Int) (a2 : Int) (a3 : Int) (a4 : V) (h : H) : Option ((Unit) × H) :=
((iter FUEL (slices_pdqsortCmpFunc_2_int.loop1 T a0 a4) ((a3, a1, true, true, a2), h)).bind fun (fl13, h12) => match fl13 with
| .next _ => none
| .ret rr14 => (some (rr14, h12))
| .ex0 _ => none
| .ex1 _ => none)
def slices_pdqsortCmpFunc_2_int.A : Ann := { lits := [], conds := [(39, [3], [.leaf (.int .i64)], none, none)], loops := [(2, [3, 1, 11, 10, 2], [.leaf (.int .i64), .leaf (.int .i64), .leaf .bool, .leaf .bool, .leaf (.int .i64)], [], [], none, none)], regs := [] }
noncomputable def slices_pdqsortCmpFunc_2_int.tc (T : Table) : Table := tab [(85, slices_insertionSortCmpFunc_2_int.e (slices_pdqsortCmpFunc_2_int.tb T))] [] (slices_pdqsortCmpFunc_2_int.tb T)
theorem slices_pdqsortCmpFunc_2_int.tcok (T : Table) (hT : TabOK Try.prog T) : TabOK Try.prog (slices_pdqsortCmpFunc_2_int.tc T) := TabOK.tab (slices_pdqsortCmpFunc_2_int.tbok T hT) (all_cons (slices_insertionSortCmpFunc_2_int.ok _ (slices_pdqsortCmpFunc_2_int.tbok T hT)) (all_nil _)) (all_nil _)
theorem slices_pdqsortCmpFunc_2_int.eq (T : Table) : ∀ (x : TT [.leaf .slice, .leaf (.int .i64), .leaf (.int .i64), .leaf (.int .i64), .leaf .dyn]) (h : H), evalFn Try.prog (slices_pdqsortCmpFunc_2_int.tc T) slices_pdqsortCmpFunc_2_int.A Try.f73 (.many []) (TT.un [.leaf .slice, .leaf (.int .i64), .leaf (.int .i64), .leaf (.int .i64), .leaf .dyn] x) h = slices_pdqsortCmpFunc_2_int T x.1 x.2.1 x.2.2.1 x.2.2.2.1 x.2.2.2.2 h := by
  intro x h
  kernel_rfl
noncomputable def slices_pdqsortCmpFunc_2_int.e (T : Table) : Entry := mkX [.leaf .slice, .leaf (.int .i64), .leaf (.int .i64), .leaf (.int .i64), .leaf .dyn] (.many []) fun x h => slices_pdqsortCmpFunc_2_int T x.1 x.2.1 x.2.2.1 x.2.2.2.1 x.2.2.2.2 h
theorem slices_pdqsortCmpFunc_2_int.ok (T : Table) (hT : TabOK Try.prog T) : EntryOK Try.prog 73 (slices_pdqsortCmpFunc_2_int.e T) := mkX_ok (slices_pdqsortCmpFunc_2_int.tcok T hT) Try.mixed Try.func73 (by kernel_rfl) (slices_pdqsortCmpFunc_2_int.eq T)

/-! ### slices.SortFunc[[][2]int,[2]int]: function 42 -/
noncomputable def slices_SortFunc_2_int_2_int.tb (T : Table) : Table := tab [(74, math_bits_Len.e)] [] T
theorem slices_SortFunc_2_int_2_int.tbok (T : Table) (hT : TabOK Try.prog T) : TabOK Try.prog (slices_SortFunc_2_int_2_int.tb T) := TabOK.tab (hT) (all_cons math_bits_Len.ok (all_nil _)) (all_nil _)
noncomputable def slices_SortFunc_2_int_2_int (T : Table) (a0 : SV) (a1 : V) (h : H) : Option ((Unit) × H) :=
((math_bits_Len (IntKind.wrap .u64 (((a0.len : Nat) : Int))) h).bind fun (r1, h2) =>
((slices_pdqsortCmpFunc_2_int (slices_SortFunc_2_int_2_int.tb T) a0 0 ((a0.len : Nat) : Int) r1 a1 h2).bind fun (_, h3) =>
(some ((), h3))))
def slices_SortFunc_2_int_2_int.A : Ann := { lits := [], conds := [], loops := [], regs := [] }
noncomputable def slices_SortFunc_2_int_2_int.tc (T : Table) : Table := tab [(73, slices_pdqsortCmpFunc_2_int.e (slices_SortFunc_2_int_2_int.tb T))] [] (slices_SortFunc_2_int_2_int.tb T)
theorem slices_SortFunc_2_int_2_int.tcok (T : Table) (hT : TabOK Try.prog T) : TabOK Try.prog (slices_SortFunc_2_int_2_int.tc T) := TabOK.tab (slices_SortFunc_2_int_2_int.tbok T hT) (all_cons (slices_pdqsortCmpFunc_2_int.ok _ (slices_SortFunc_2_int_2_int.tbok T hT)) (all_nil _)) (all_nil _)
theorem slices_SortFunc_2_int_2_int.eq (T : Table) : ∀ (x : TT [.leaf .slice, .leaf .dyn]) (h : H), evalFn Try.prog (slices_SortFunc_2_int_2_int.tc T) slices_SortFunc_2_int_2_int.A Try.f42 (.many []) (TT.un [.leaf .slice, .leaf .dyn] x) h = slices_SortFunc_2_int_2_int T x.1 x.2 h := by
  intro x h
  kernel_rfl
noncomputable def slices_SortFunc_2_int_2_int.e (T : Table) : Entry := mkX [.leaf .slice, .leaf .dyn] (.many []) fun x h => slices_SortFunc_2_int_2_int T x.1 x.2 h
theorem slices_SortFunc_2_int_2_int.ok (T : Table) (hT : TabOK Try.prog T) : EntryOK Try.prog 42 (slices_SortFunc_2_int_2_int.e T) := mkX_ok (slices_SortFunc_2_int_2_int.tcok T hT) Try.mixed Try.func42 (by kernel_rfl) (slices_SortFunc_2_int_2_int.eq T)

/-! ### spile/blend.Bound$1: function 43 -/
noncomputable def blend_Bound_1.tb : Table := tab [] [] Table.nil
theorem blend_Bound_1.tbok : TabOK Try.prog (blend_Bound_1.tb) := TabOK.tab (TabOK.nil Try.prog) (all_nil _) (all_nil _)
noncomputable def blend_Bound_1 (a0 : (Int × Int)) (a1 : (Int × Int)) (h : H) : Option ((Int) × H) :=
(match a0 with
| (a0_0, a0_1) =>
(match a1 with
| (a1_0, a1_1) =>
(let h1 : H := H.new h [.int .i64 a0_0, .int .i64 a0_1] 2
(let h2 : H := H.new h1 [.int .i64 a1_0, .int .i64 a1_1] 2
((rdT (.leaf (.int .i64)) h2 (.hp h.next 2 0)).bind fun x3 =>
((rdT (.leaf (.int .i64)) h2 (.hp h1.next 2 0)).bind fun x4 =>
(some ((IntKind.wrap .i64 (x3 - x4)), h2))))))))
def blend_Bound_1.A : Ann := { lits := [], conds := [], loops := [], regs := [] }
theorem blend_Bound_1.eq : ∀ (x : TT [.agg [.int .i64, .int .i64], .agg [.int .i64, .int .i64]]) (h : H), evalFn Try.prog (blend_Bound_1.tb) blend_Bound_1.A Try.f43 (.one (.leaf (.int .i64))) (TT.un [.agg [.int .i64, .int .i64], .agg [.int .i64, .int .i64]] x) h = blend_Bound_1 x.1 x.2 h := by
  intro x h
  kernel_rfl
noncomputable def blend_Bound_1.e : Entry := mkX [.agg [.int .i64, .int .i64], .agg [.int .i64, .int .i64]] (.one (.leaf (.int .i64))) fun x h => blend_Bound_1 x.1 x.2 h
theorem blend_Bound_1.ok : EntryOK Try.prog 43 (blend_Bound_1.e) := mkX_ok (blend_Bound_1.tbok) Try.mixed Try.func43 (by kernel_rfl) (blend_Bound_1.eq)
noncomputable def blend_Bound_1P (a0 : (Int × Int)) (a1 : (Int × Int)) : Option (Int) := (blend_Bound_1 a0 a1 H.empty).bind fun p => rdRes false p.2 (.one (.leaf (.int .i64))) (Res.un (.one (.leaf (.int .i64))) p.1)
theorem blend_Bound_1P.eq : ∀ x : TT [.agg [.int .i64, .int .i64], .agg [.int .i64, .int .i64]], ((evalFn Try.prog (blend_Bound_1.tb) blend_Bound_1.A Try.f43 (.one (.leaf (.int .i64))) (TT.lo false [.agg [.int .i64, .int .i64], .agg [.int .i64, .int .i64]] x) H.empty).bind fun p => rdRes false p.2 (.one (.leaf (.int .i64))) (Res.un (.one (.leaf (.int .i64))) p.1)) = blend_Bound_1P x.1 x.2 := by
  intro x
  rw [show TT.lo false [.agg [.int .i64, .int .i64], .agg [.int .i64, .int .i64]] x = TT.un [.agg [.int .i64, .int .i64], .agg [.int .i64, .int .i64]] (x.1, x.2) from rfl, blend_Bound_1.eq]
  rfl
noncomputable def blend_Bound_1P.e : Entry := mkP [.agg [.int .i64, .int .i64], .agg [.int .i64, .int .i64]] (.one (.leaf (.int .i64))) fun x => blend_Bound_1P x.1 x.2
theorem blend_Bound_1P.ok : EntryOK Try.prog 43 (blend_Bound_1P.e) := mkP_ok (blend_Bound_1.tbok) Try.mixed Try.func43 (by kernel_rfl) blend_Bound_1P.eq

/-! ### spile/blend.Bound: function 16 -/
noncomputable def blend_Bound.tb : Table := tab [(14, blend_CheckP.e), (41, blend_sumP.e)] [(43, blend_Bound_1P.e)] Table.nil
theorem blend_Bound.tbok : TabOK Try.prog (blend_Bound.tb) := TabOK.tab (TabOK.nil Try.prog) (all_cons blend_CheckP.ok (all_cons blend_sumP.ok (all_nil _))) (all_cons blend_Bound_1P.ok (all_nil _))
noncomputable def blend_Bound.loop1 (h : H) (h8 : H) (x14 : SV) : (Int) × H → Option (Stp ((Int) × H) (Flow (Unit) (Int × Int) × H)) := fun (y15, h16) =>
(bif (decide (y15 < ((x14.len : Nat) : Int))) then (guardO (0 ≤ y15 ∧ y15 < ((x14.len : Nat) : Int)) ((rdT (.leaf (.int .i64)) h16 (V.add x14.a (Int.toNat y15 * 1))).bind fun x17 =>
((rdT (.leaf .slice) h16 (.hp h.next 6 2)).bind fun x18 =>
(guardO (0 ≤ y15 ∧ y15 < ((x18.len : Nat) : Int)) ((rdT (.leaf (.int .i64)) h16 (V.add x18.a (Int.toNat y15 * 1))).bind fun x19 =>
(guardO (V.nn (.hp h8.next 8 0 : V) = true ∧ 0 ≤ y15 ∧ y15 < ((4 : Nat) : Int)) ((H.wrs h16 (.hp h8.next 8 (0 + (Int.toNat y15 * 2))) [.int .i64 x19, .int .i64 x17]).bind fun h20 =>
(some (.more ((IntKind.wrap .i64 (y15 + 1)), h20)))))))))) else (some (.done (.ex0 (), h16))))
noncomputable def blend_Bound.loop2 (h8 : H) (x24 : SV) : (Int × Int × Int) × H → Option (Stp ((Int × Int × Int) × H) (Flow (Int) (Int × Int) × H)) := fun ((y27, y28, y29), h30) =>
(bif (decide (y29 < ((((Int.toNat ((x24.len : Nat) : Int)) - Int.toNat 0) : Nat) : Int))) then (guardO (0 ≤ y29 ∧ y29 < ((((Int.toNat ((x24.len : Nat) : Int)) - Int.toNat 0) : Nat) : Int)) ((rdT (.agg [.int .i64, .int .i64]) h30 (.hp h8.next 8 (0 + (Int.toNat y29 * 2)))).bind fun (x31_0, x31_1) =>
(let h32 : H := H.new h30 [.int .i64 0, .int .i64 0] 2
((H.wrs h32 (.hp h30.next 2 0) [.int .i64 x31_0, .int .i64 x31_1]).bind fun h33 =>
((rdT (.leaf (.int .i64)) h33 (.hp h30.next 2 1)).bind fun x34 =>
(let h35 : H := H.reserve h33 0
((rdT (.leaf (.int .i64)) h35 (.hp h30.next 2 0)).bind fun x36 =>
(some (.more (((IntKind.wrap .i64 (y27 - (minI x34 y27))), (IntKind.wrap .i64 (y28 + (IntKind.wrap .i64 ((minI x34 y27) * x36)))), (IntKind.wrap .i64 (y29 + 1))), h35)))))))))) else (some (.done (.ex0 y28, h30))))
noncomputable def blend_Bound (a0 : SV) (a1 : (SV × SV × SV × Int × Int × Int)) (h : H) : Option ((Int × Int) × H) :=
(match a1 with
| (a1_0, a1_1, a1_2, a1_3, a1_4, a1_5) =>
(let h1 : H := H.new h [.slice a1_0.a a1_0.len a1_0.cap a1_0.tail, .slice a1_1.a a1_1.len a1_1.cap a1_1.tail, .slice a1_2.a a1_2.len a1_2.cap a1_2.tail, .int .i64 a1_3, .int .i64 a1_4, .int .i64 a1_5] 6
((rdT (.agg [.slice, .slice, .slice, .int .i64, .int .i64, .int .i64]) h1 (.hp h.next 6 0)).bind fun (x2_0, x2_1, x2_2, x2_3, x2_4, x2_5) =>
((rdRow true h1 [.int .i64, .int .i64] a0).bind fun s4 =>
((rdRow true h1 [.int .i64, .int .i64] x2_0).bind fun s5 =>
((rdRow true h1 [.int .i64] x2_1).bind fun s6 =>
((rdRow true h1 [.int .i64] x2_2).bind fun s7 =>
((blend_CheckP s4 (s5, s6, s7, x2_3, x2_4, x2_5)).bind fun r3 =>
(bif (!(decide (r3 = 0))) then (some ((0, 1), h1)) else (let h8 : H := H.reserve h1 0
((rdT (.leaf .slice) h8 (.hp h.next 6 1)).bind fun x9 =>
((rdRow true h8 [.int .i64] x9).bind fun s11 =>
((blend_sumP s11).bind fun r10 =>
((rdT (.leaf (.int .i64)) h8 (.hp h.next 6 5)).bind fun x12 =>
(bif (decide (r10 < x12)) then (some ((0, 20), h8)) else (let h13 : H := H.new h8 [.int .i64 0, .int .i64 0, .int .i64 0, .int .i64 0, .int .i64 0, .int .i64 0, .int .i64 0, .int .i64 0] 8
((rdT (.leaf .slice) h13 (.hp h.next 6 1)).bind fun x14 =>
((iter FUEL (blend_Bound.loop1 h h8 x14) (0, h13)).bind fun (fl22, h21) => match fl22 with
| .next _ => none
| .ret rr23 => (some (rr23, h21))
| .ex0 _ =>
((rdT (.leaf .slice) h21 (.hp h.next 6 1)).bind fun x24 =>
(guardO ((0 : Int) ≤ 0 ∧ (0 : Int) ≤ ((x24.len : Nat) : Int) ∧ ((x24.len : Nat) : Int) ≤ ((4 : Nat) : Int)) ((slices_SortFunc_2_int_2_int blend_Bound.tb ⟨.hp h8.next 8 0, ((Int.toNat ((x24.len : Nat) : Int)) - Int.toNat 0), (4 - Int.toNat 0), false⟩ (.func 43 [] : V) h21).bind fun (_, h25) =>
((rdT (.leaf (.int .i64)) h25 (.hp h.next 6 5)).bind fun x26 =>
((iter FUEL (blend_Bound.loop2 h8 x24) ((x26, 0, 0), h25)).bind fun (fl38, h37) => match fl38 with
| .next _ => none
| .ret rr39 => (some (rr39, h37))
| .ex0 y40 =>
(some ((y40, 0), h37))
| .ex1 _ => none)))))
| .ex1 _ => none))))))))))))))))))
def blend_Bound.A : Ann := { lits := [], conds := [], loops := [(7, [30], [.leaf (.int .i64)], [], [], some 1, none), (15, [10, 11, 55], [.leaf (.int .i64), .leaf (.int .i64), .leaf (.int .i64)], [11], [.leaf (.int .i64)], some 3, none)], regs := [] }
noncomputable def blend_Bound.tc : Table := tab [(42, slices_SortFunc_2_int_2_int.e (blend_Bound.tb))] [] (blend_Bound.tb)
theorem blend_Bound.tcok : TabOK Try.prog (blend_Bound.tc) := TabOK.tab (blend_Bound.tbok) (all_cons (slices_SortFunc_2_int_2_int.ok _ (blend_Bound.tbok)) (all_nil _)) (all_nil _)
theorem blend_Bound.eq : ∀ (x : TT [.leaf .slice, .agg [.slice, .slice, .slice, .int .i64, .int .i64, .int .i64]]) (h : H), evalFn Try.prog (blend_Bound.tc) blend_Bound.A Try.f16 (.many [.leaf (.int .i64), .leaf (.int .i64)]) (TT.un [.leaf .slice, .agg [.slice, .slice, .slice, .int .i64, .int .i64, .int .i64]] x) h = blend_Bound x.1 x.2 h := by
  intro x h
  kernel_rfl
noncomputable def blend_Bound.e : Entry := mkX [.leaf .slice, .agg [.slice, .slice, .slice, .int .i64, .int .i64, .int .i64]] (.many [.leaf (.int .i64), .leaf (.int .i64)]) fun x h => blend_Bound x.1 x.2 h
theorem blend_Bound.ok : EntryOK Try.prog 16 (blend_Bound.e) := mkX_ok (blend_Bound.tcok) Try.mixed Try.func16 (by kernel_rfl) (blend_Bound.eq)
noncomputable def blend_BoundP (a0 : (List (Int × Int))) (a1 : ((List (Int × Int)) × (List (Int)) × (List (Int)) × Int × Int × Int)) : Option (Int × Int) := (blend_Bound (rowSV false [.int .i64, .int .i64] a0) (rowSV false [.int .i64, .int .i64] a1.1, rowSV false [.int .i64] a1.2.1, rowSV false [.int .i64] a1.2.2.1, a1.2.2.2.1, a1.2.2.2.2.1, a1.2.2.2.2.2) H.empty).bind fun p => rdRes false p.2 (.many [.leaf (.int .i64), .leaf (.int .i64)]) (Res.un (.many [.leaf (.int .i64), .leaf (.int .i64)]) p.1)
theorem blend_BoundP.eq : ∀ x : TT [.leaf (.row [.int .i64, .int .i64]), .agg [.row [.int .i64, .int .i64], .row [.int .i64], .row [.int .i64], .int .i64, .int .i64, .int .i64]], ((evalFn Try.prog (blend_Bound.tc) blend_Bound.A Try.f16 (.many [.leaf (.int .i64), .leaf (.int .i64)]) (TT.lo false [.leaf (.row [.int .i64, .int .i64]), .agg [.row [.int .i64, .int .i64], .row [.int .i64], .row [.int .i64], .int .i64, .int .i64, .int .i64]] x) H.empty).bind fun p => rdRes false p.2 (.many [.leaf (.int .i64), .leaf (.int .i64)]) (Res.un (.many [.leaf (.int .i64), .leaf (.int .i64)]) p.1)) = blend_BoundP x.1 x.2 := by
  intro x
  rw [show TT.lo false [.leaf (.row [.int .i64, .int .i64]), .agg [.row [.int .i64, .int .i64], .row [.int .i64], .row [.int .i64], .int .i64, .int .i64, .int .i64]] x = TT.un [.leaf .slice, .agg [.slice, .slice, .slice, .int .i64, .int .i64, .int .i64]] ((rowSV false [.int .i64, .int .i64] x.1), (rowSV false [.int .i64, .int .i64] x.2.1, rowSV false [.int .i64] x.2.2.1, rowSV false [.int .i64] x.2.2.2.1, x.2.2.2.2.1, x.2.2.2.2.2.1, x.2.2.2.2.2.2)) from rfl, blend_Bound.eq]
  rfl
noncomputable def blend_BoundP.e : Entry := mkP [.leaf (.row [.int .i64, .int .i64]), .agg [.row [.int .i64, .int .i64], .row [.int .i64], .row [.int .i64], .int .i64, .int .i64, .int .i64]] (.many [.leaf (.int .i64), .leaf (.int .i64)]) fun x => blend_BoundP x.1 x.2
theorem blend_BoundP.ok : EntryOK Try.prog 16 (blend_BoundP.e) := mkP_ok (blend_Bound.tcok) Try.mixed Try.func16 (by kernel_rfl) blend_BoundP.eq

/-! ### slices.Equal[[]int,int]: function 20 -/
noncomputable def slices_Equal_int_int.tb : Table := tab [] [] Table.nil
theorem slices_Equal_int_int.tbok : TabOK Try.prog (slices_Equal_int_int.tb) := TabOK.tab (TabOK.nil Try.prog) (all_nil _) (all_nil _)
noncomputable def slices_Equal_int_int.loop1 (a0 : SV) (a1 : SV) : (Int) × H → Option (Stp ((Int) × H) (Flow (Unit) (Bool) × H)) := fun (y1, h2) =>
(bif (decide (y1 < ((a0.len : Nat) : Int))) then (let h3 : H := H.reserve h2 0
(guardO (0 ≤ y1 ∧ y1 < ((a0.len : Nat) : Int)) ((rdT (.leaf (.int .i64)) h3 (V.add a0.a (Int.toNat y1 * 1))).bind fun x4 =>
(guardO (0 ≤ y1 ∧ y1 < ((a1.len : Nat) : Int)) ((rdT (.leaf (.int .i64)) h3 (V.add a1.a (Int.toNat y1 * 1))).bind fun x5 =>
(bif (!(decide (x4 = x5))) then (some (.done (.ret false, h3))) else (some (.more ((IntKind.wrap .i64 (y1 + 1)), h3))))))))) else (some (.done (.ex0 (), h2))))
noncomputable def slices_Equal_int_int (a0 : SV) (a1 : SV) (h : H) : Option ((Bool) × H) :=
(bif (!(decide (((a0.len : Nat) : Int) = ((a1.len : Nat) : Int)))) then (some (false, h)) else ((iter FUEL (slices_Equal_int_int.loop1 a0 a1) (0, h)).bind fun (fl7, h6) => match fl7 with
| .next _ => none
| .ret rr8 => (some (rr8, h6))
| .ex0 _ =>
(some (true, h6))
| .ex1 _ => none))
def slices_Equal_int_int.A : Ann := { lits := [], conds := [], loops := [(4, [13], [.leaf (.int .i64)], [], [], some 0, none)], regs := [] }
theorem slices_Equal_int_int.eq : ∀ (x : TT [.leaf .slice, .leaf .slice]) (h : H), evalFn Try.prog (slices_Equal_int_int.tb) slices_Equal_int_int.A Try.f20 (.one (.leaf .bool)) (TT.un [.leaf .slice, .leaf .slice] x) h = slices_Equal_int_int x.1 x.2 h := by
  intro x h
  kernel_rfl
noncomputable def slices_Equal_int_int.e : Entry := mkX [.leaf .slice, .leaf .slice] (.one (.leaf .bool)) fun x h => slices_Equal_int_int x.1 x.2 h
theorem slices_Equal_int_int.ok : EntryOK Try.prog 20 (slices_Equal_int_int.e) := mkX_ok (slices_Equal_int_int.tbok) Try.mixed Try.func20 (by kernel_rfl) (slices_Equal_int_int.eq)
noncomputable def slices_Equal_int_intP (a0 : (List (Int))) (a1 : (List (Int))) : Option (Bool) := (slices_Equal_int_int (rowSV false [.int .i64] a0) (rowSV false [.int .i64] a1) H.empty).bind fun p => rdRes false p.2 (.one (.leaf .bool)) (Res.un (.one (.leaf .bool)) p.1)
theorem slices_Equal_int_intP.eq : ∀ x : TT [.leaf (.row [.int .i64]), .leaf (.row [.int .i64])], ((evalFn Try.prog (slices_Equal_int_int.tb) slices_Equal_int_int.A Try.f20 (.one (.leaf .bool)) (TT.lo false [.leaf (.row [.int .i64]), .leaf (.row [.int .i64])] x) H.empty).bind fun p => rdRes false p.2 (.one (.leaf .bool)) (Res.un (.one (.leaf .bool)) p.1)) = slices_Equal_int_intP x.1 x.2 := by
  intro x
  rw [show TT.lo false [.leaf (.row [.int .i64]), .leaf (.row [.int .i64])] x = TT.un [.leaf .slice, .leaf .slice] ((rowSV false [.int .i64] x.1), (rowSV false [.int .i64] x.2)) from rfl, slices_Equal_int_int.eq]
  rfl
noncomputable def slices_Equal_int_intP.e : Entry := mkP [.leaf (.row [.int .i64]), .leaf (.row [.int .i64])] (.one (.leaf .bool)) fun x => slices_Equal_int_intP x.1 x.2
theorem slices_Equal_int_intP.ok : EntryOK Try.prog 20 (slices_Equal_int_intP.e) := mkP_ok (slices_Equal_int_int.tbok) Try.mixed Try.func20 (by kernel_rfl) slices_Equal_int_intP.eq

/-! ### spile/mix.plain: function 61 -/
noncomputable def mix_plain.tb : Table := tab [] [] Table.nil
theorem mix_plain.tbok : TabOK Try.prog (mix_plain.tb) := TabOK.tab (TabOK.nil Try.prog) (all_nil _) (all_nil _)
noncomputable def mix_plain (a0 : (Int × Int)) (h : H) : Option ((Bool) × H) :=
(match a0 with
| (a0_0, a0_1) =>
(let h1 : H := H.new h [.int .i64 a0_0, .int .i64 a0_1] 2
((((rdT (.leaf (.int .i64)) h1 (.hp h.next 2 0)).bind fun x2 =>
(bif (decide ((0 : Int) ≤ x2)) then ((rdT (.leaf (.int .i64)) h1 (.hp h.next 2 0)).bind fun x3 =>
(bif (decide (x3 ≤ 10737418240000)) then ((rdT (.leaf (.int .i64)) h1 (.hp h.next 2 1)).bind fun x4 =>
(bif (decide ((0 : Int) ≤ x4)) then ((rdT (.leaf (.int .i64)) h1 (.hp h.next 2 1)).bind fun x5 =>
(bif (decide (x5 ≤ 128849018880000)) then ((rdT (.leaf (.int .i64)) h1 (.hp h.next 2 1)).bind fun x6 =>
(bif !(decide ((0 : Int) < x6)) then ((rdT (.leaf (.int .i64)) h1 (.hp h.next 2 0)).bind fun x7 =>
(some ((decide (x7 = 0)), h1))) else (some (true, h1)))) else (some (false, h1)))) else (some (false, h1)))) else (some (false, h1)))) else (some (false, h1))))).bind fun (y8, h9) =>
(some (y8, h9)))))
def mix_plain.A : Ann := { lits := [], conds := [], loops := [], regs := [(1, [2], [.leaf .bool])] }
theorem mix_plain.eq : ∀ (x : TT [.agg [.int .i64, .int .i64]]) (h : H), evalFn Try.prog (mix_plain.tb) mix_plain.A Try.f61 (.one (.leaf .bool)) (TT.un [.agg [.int .i64, .int .i64]] x) h = mix_plain x h := by
  intro x h
  kernel_rfl
noncomputable def mix_plain.e : Entry := mkX [.agg [.int .i64, .int .i64]] (.one (.leaf .bool)) fun x h => mix_plain x h
theorem mix_plain.ok : EntryOK Try.prog 61 (mix_plain.e) := mkX_ok (mix_plain.tbok) Try.mixed Try.func61 (by kernel_rfl) (mix_plain.eq)
noncomputable def mix_plainP (a0 : (Int × Int)) : Option (Bool) := (mix_plain a0 H.empty).bind fun p => rdRes false p.2 (.one (.leaf .bool)) (Res.un (.one (.leaf .bool)) p.1)
theorem mix_plainP.eq : ∀ x : TT [.agg [.int .i64, .int .i64]], ((evalFn Try.prog (mix_plain.tb) mix_plain.A Try.f61 (.one (.leaf .bool)) (TT.lo false [.agg [.int .i64, .int .i64]] x) H.empty).bind fun p => rdRes false p.2 (.one (.leaf .bool)) (Res.un (.one (.leaf .bool)) p.1)) = mix_plainP x := by
  intro x
  rw [show TT.lo false [.agg [.int .i64, .int .i64]] x = TT.un [.agg [.int .i64, .int .i64]] (x) from rfl, mix_plain.eq]
  rfl
noncomputable def mix_plainP.e : Entry := mkP [.agg [.int .i64, .int .i64]] (.one (.leaf .bool)) fun x => mix_plainP x
theorem mix_plainP.ok : EntryOK Try.prog 61 (mix_plainP.e) := mkP_ok (mix_plain.tbok) Try.mixed Try.func61 (by kernel_rfl) mix_plainP.eq

/-! ### spile/mix.Sum$1: function 60 -/
noncomputable def mix_Sum_1.tb : Table := tab [(61, mix_plainP.e)] [] Table.nil
theorem mix_Sum_1.tbok : TabOK Try.prog (mix_Sum_1.tb) := TabOK.tab (TabOK.nil Try.prog) (all_cons mix_plainP.ok (all_nil _)) (all_nil _)
noncomputable def mix_Sum_1 (a0 : (Int × Int)) (h : H) : Option ((Bool) × H) :=
(match a0 with
| (a0_0, a0_1) =>
(let h1 : H := H.new h [.int .i64 a0_0, .int .i64 a0_1] 2
((rdT (.agg [.int .i64, .int .i64]) h1 (.hp h.next 2 0)).bind fun (x2_0, x2_1) =>
((mix_plainP (x2_0, x2_1)).bind fun r3 =>
(some ((!r3), h1))))))
def mix_Sum_1.A : Ann := { lits := [], conds := [], loops := [], regs := [] }
theorem mix_Sum_1.eq : ∀ (x : TT [.agg [.int .i64, .int .i64]]) (h : H), evalFn Try.prog (mix_Sum_1.tb) mix_Sum_1.A Try.f60 (.one (.leaf .bool)) (TT.un [.agg [.int .i64, .int .i64]] x) h = mix_Sum_1 x h := by
  intro x h
  kernel_rfl
noncomputable def mix_Sum_1.e : Entry := mkX [.agg [.int .i64, .int .i64]] (.one (.leaf .bool)) fun x h => mix_Sum_1 x h
theorem mix_Sum_1.ok : EntryOK Try.prog 60 (mix_Sum_1.e) := mkX_ok (mix_Sum_1.tbok) Try.mixed Try.func60 (by kernel_rfl) (mix_Sum_1.eq)
noncomputable def mix_Sum_1P (a0 : (Int × Int)) : Option (Bool) := (mix_Sum_1 a0 H.empty).bind fun p => rdRes false p.2 (.one (.leaf .bool)) (Res.un (.one (.leaf .bool)) p.1)
theorem mix_Sum_1P.eq : ∀ x : TT [.agg [.int .i64, .int .i64]], ((evalFn Try.prog (mix_Sum_1.tb) mix_Sum_1.A Try.f60 (.one (.leaf .bool)) (TT.lo false [.agg [.int .i64, .int .i64]] x) H.empty).bind fun p => rdRes false p.2 (.one (.leaf .bool)) (Res.un (.one (.leaf .bool)) p.1)) = mix_Sum_1P x := by
  intro x
  rw [show TT.lo false [.agg [.int .i64, .int .i64]] x = TT.un [.agg [.int .i64, .int .i64]] (x) from rfl, mix_Sum_1.eq]
  rfl
noncomputable def mix_Sum_1P.e : Entry := mkP [.agg [.int .i64, .int .i64]] (.one (.leaf .bool)) fun x => mix_Sum_1P x
theorem mix_Sum_1P.ok : EntryOK Try.prog 60 (mix_Sum_1P.e) := mkP_ok (mix_Sum_1.tbok) Try.mixed Try.func60 (by kernel_rfl) mix_Sum_1P.eq

/-! ### spile/mix.total: function 62 -/
noncomputable def mix_total.tb : Table := tab [] [] Table.nil
theorem mix_total.tbok : TabOK Try.prog (mix_total.tb) := TabOK.tab (TabOK.nil Try.prog) (all_nil _) (all_nil _)
noncomputable def mix_total.loop1 (a0 : SV) (h1 : H) : (Int) × H → Option (Stp ((Int) × H) (Flow (Unit) ((Int × Int)) × H)) := fun (y3, h4) =>
(bif (decide (y3 < ((a0.len : Nat) : Int))) then (guardO (0 ≤ y3 ∧ y3 < ((a0.len : Nat) : Int)) ((rdT (.agg [.int .i64, .int .i64]) h4 (V.add a0.a (Int.toNat y3 * 2))).bind fun (x5_0, x5_1) =>
(let h6 : H := H.new h4 [.int .i64 0, .int .i64 0] 2
((H.wrs h6 (.hp h4.next 2 0) [.int .i64 x5_0, .int .i64 x5_1]).bind fun h7 =>
(let h8 : H := H.reserve h7 0
((rdT (.leaf (.int .i64)) h8 (.hp h1.next 2 0)).bind fun x9 =>
((rdT (.leaf (.int .i64)) h8 (.hp h4.next 2 0)).bind fun x10 =>
((rdT (.leaf (.int .i64)) h8 (.hp h1.next 2 1)).bind fun x11 =>
((rdT (.leaf (.int .i64)) h8 (.hp h4.next 2 1)).bind fun x12 =>
((H.wrs h8 (.hp h1.next 2 0) [.int .i64 (IntKind.wrap .i64 (x9 + x10))]).bind fun h13 =>
((H.wrs h13 (.hp h1.next 2 1) [.int .i64 (IntKind.wrap .i64 (x11 + x12))]).bind fun h14 =>
(guardO (apartA (.hp h4.next 2 1 : V) (.hp h1.next 2 0 : V) = true) (some (.more ((IntKind.wrap .i64 (y3 + 1)), h14))))))))))))))) else (some (.done (.ex0 (), h4))))
noncomputable def mix_total (a0 : SV) (h : H) : Option (((Int × Int)) × H) :=
(let h1 : H := H.new h [.int .i64 0, .int .i64 0] 2
(let h2 : H := H.new h1 [.int .i64 0, .int .i64 0] 2
((iter FUEL (mix_total.loop1 a0 h1) (0, h2)).bind fun (fl16, h15) => match fl16 with
| .next _ => none
| .ret rr17 => (some (rr17, h15))
| .ex0 _ =>
((rdT (.leaf (.int .i64)) h15 (.hp h1.next 2 0)).bind fun x18 =>
((rdT (.leaf (.int .i64)) h15 (.hp h1.next 2 1)).bind fun x19 =>
((H.wrs h15 (.hp h.next 2 0) [.int .i64 x18, .int .i64 x19]).bind fun h20 =>
((rdT (.agg [.int .i64, .int .i64]) h20 (.hp h.next 2 0 : V)).bind fun (x21_0, x21_1) =>
(some ((x21_0, x21_1), h20))))))
| .ex1 _ => none)))
def mix_total.A : Ann := { lits := [], conds := [], loops := [(3, [8], [.leaf (.int .i64)], [], [], some 0, none)], regs := [] }
theorem mix_total.eq : ∀ (x : TT [.leaf .slice]) (h : H), evalFn Try.prog (mix_total.tb) mix_total.A Try.f62 (.one (.agg [.int .i64, .int .i64])) (TT.un [.leaf .slice] x) h = mix_total x h := by
  intro x h
  kernel_rfl
noncomputable def mix_total.e : Entry := mkX [.leaf .slice] (.one (.agg [.int .i64, .int .i64])) fun x h => mix_total x h
theorem mix_total.ok : EntryOK Try.prog 62 (mix_total.e) := mkX_ok (mix_total.tbok) Try.mixed Try.func62 (by kernel_rfl) (mix_total.eq)
noncomputable def mix_totalP (a0 : (List (Int × Int))) : Option ((Int × Int)) := (mix_total (rowSV false [.int .i64, .int .i64] a0) H.empty).bind fun p => rdRes false p.2 (.one (.agg [.int .i64, .int .i64])) (Res.un (.one (.agg [.int .i64, .int .i64])) p.1)
theorem mix_totalP.eq : ∀ x : TT [.leaf (.row [.int .i64, .int .i64])], ((evalFn Try.prog (mix_total.tb) mix_total.A Try.f62 (.one (.agg [.int .i64, .int .i64])) (TT.lo false [.leaf (.row [.int .i64, .int .i64])] x) H.empty).bind fun p => rdRes false p.2 (.one (.agg [.int .i64, .int .i64])) (Res.un (.one (.agg [.int .i64, .int .i64])) p.1)) = mix_totalP x := by
  intro x
  rw [show TT.lo false [.leaf (.row [.int .i64, .int .i64])] x = TT.un [.leaf .slice] ((rowSV false [.int .i64, .int .i64] x)) from rfl, mix_total.eq]
  rfl
noncomputable def mix_totalP.e : Entry := mkP [.leaf (.row [.int .i64, .int .i64])] (.one (.agg [.int .i64, .int .i64])) fun x => mix_totalP x
theorem mix_totalP.ok : EntryOK Try.prog 62 (mix_totalP.e) := mkP_ok (mix_total.tbok) Try.mixed Try.func62 (by kernel_rfl) mix_totalP.eq

/-! ### spile/mix.Sum: function 26 -/
noncomputable def mix_Sum.tb : Table := tab [(61, mix_plainP.e), (62, mix_totalP.e)] [(60, mix_Sum_1P.e)] Table.nil
theorem mix_Sum.tbok : TabOK Try.prog (mix_Sum.tb) := TabOK.tab (TabOK.nil Try.prog) (all_cons mix_plainP.ok (all_cons mix_totalP.ok (all_nil _))) (all_cons mix_Sum_1P.ok (all_nil _))
noncomputable def mix_Sum (a0 : SV) (h : H) : Option (((Int × Int) × Int) × H) :=
(let h1 : H := H.new h [.int .i64 0, .int .i64 0] 2
(bif (decide ((8 : Int) < ((a0.len : Nat) : Int))) then ((H.wrs h1 (.hp h.next 2 0) [.int .i64 0, .int .i64 0]).bind fun h2 =>
((rdT (.agg [.int .i64, .int .i64]) h2 (.hp h.next 2 0 : V)).bind fun (x3_0, x3_1) =>
(some (((x3_0, x3_1), 8), h2)))) else ((slices_ContainsFunc_api_Liquid_api_Liquid mix_Sum.tb a0 (.func 60 [] : V) h1).bind fun (r4, h5) =>
(bif r4 then ((H.wrs h5 (.hp h.next 2 0) [.int .i64 0, .int .i64 0]).bind fun h6 =>
((rdT (.agg [.int .i64, .int .i64]) h6 (.hp h.next 2 0 : V)).bind fun (x7_0, x7_1) =>
(some (((x7_0, x7_1), 1), h6)))) else ((rdRow true h5 [.int .i64, .int .i64] a0).bind fun s9 =>
((mix_totalP s9).bind fun (r8_0, r8_1) =>
(let h10 : H := H.new h5 [.int .i64 0, .int .i64 0] 2
((H.wrs h10 (.hp h5.next 2 0) [.int .i64 r8_0, .int .i64 r8_1]).bind fun h11 =>
((rdT (.agg [.int .i64, .int .i64]) h11 (.hp h5.next 2 0)).bind fun (x12_0, x12_1) =>
((mix_plainP (x12_0, x12_1)).bind fun r13 =>
(bif r13 then ((rdT (.agg [.int .i64, .int .i64]) h11 (.hp h5.next 2 0)).bind fun (x14_0, x14_1) =>
((H.wrs h11 (.hp h.next 2 0) [.int .i64 x14_0, .int .i64 x14_1]).bind fun h15 =>
((rdT (.agg [.int .i64, .int .i64]) h15 (.hp h.next 2 0 : V)).bind fun (x16_0, x16_1) =>
(some (((x16_0, x16_1), 0), h15))))) else ((H.wrs h11 (.hp h.next 2 0) [.int .i64 0, .int .i64 0]).bind fun h17 =>
((rdT (.agg [.int .i64, .int .i64]) h17 (.hp h.next 2 0 : V)).bind fun (x18_0, x18_1) =>
(some (((x18_0, x18_1), 15), h17)))))))))))))))
def mix_Sum.A : Ann := { lits := [], conds := [], loops := [], regs := [] }
noncomputable def mix_Sum.tc : Table := tab [(46, slices_ContainsFunc_api_Liquid_api_Liquid.e (mix_Sum.tb))] [] (mix_Sum.tb)
theorem mix_Sum.tcok : TabOK Try.prog (mix_Sum.tc) := TabOK.tab (mix_Sum.tbok) (all_cons (slices_ContainsFunc_api_Liquid_api_Liquid.ok _ (mix_Sum.tbok)) (all_nil _)) (all_nil _)
theorem mix_Sum.eq : ∀ (x : TT [.leaf .slice]) (h : H), evalFn Try.prog (mix_Sum.tc) mix_Sum.A Try.f26 (.many [.agg [.int .i64, .int .i64], .leaf (.int .i64)]) (TT.un [.leaf .slice] x) h = mix_Sum x h := by
  intro x h
  kernel_rfl
noncomputable def mix_Sum.e : Entry := mkX [.leaf .slice] (.many [.agg [.int .i64, .int .i64], .leaf (.int .i64)]) fun x h => mix_Sum x h
theorem mix_Sum.ok : EntryOK Try.prog 26 (mix_Sum.e) := mkX_ok (mix_Sum.tcok) Try.mixed Try.func26 (by kernel_rfl) (mix_Sum.eq)
noncomputable def mix_SumP (a0 : (List (Int × Int))) : Option ((Int × Int) × Int) := (mix_Sum (rowSV false [.int .i64, .int .i64] a0) H.empty).bind fun p => rdRes false p.2 (.many [.agg [.int .i64, .int .i64], .leaf (.int .i64)]) (Res.un (.many [.agg [.int .i64, .int .i64], .leaf (.int .i64)]) p.1)
theorem mix_SumP.eq : ∀ x : TT [.leaf (.row [.int .i64, .int .i64])], ((evalFn Try.prog (mix_Sum.tc) mix_Sum.A Try.f26 (.many [.agg [.int .i64, .int .i64], .leaf (.int .i64)]) (TT.lo false [.leaf (.row [.int .i64, .int .i64])] x) H.empty).bind fun p => rdRes false p.2 (.many [.agg [.int .i64, .int .i64], .leaf (.int .i64)]) (Res.un (.many [.agg [.int .i64, .int .i64], .leaf (.int .i64)]) p.1)) = mix_SumP x := by
  intro x
  rw [show TT.lo false [.leaf (.row [.int .i64, .int .i64])] x = TT.un [.leaf .slice] ((rowSV false [.int .i64, .int .i64] x)) from rfl, mix_Sum.eq]
  rfl
noncomputable def mix_SumP.e : Entry := mkP [.leaf (.row [.int .i64, .int .i64])] (.many [.agg [.int .i64, .int .i64], .leaf (.int .i64)]) fun x => mix_SumP x
theorem mix_SumP.ok : EntryOK Try.prog 26 (mix_SumP.e) := mkP_ok (mix_Sum.tcok) Try.mixed Try.func26 (by kernel_rfl) mix_SumP.eq
end Go.Proofs.Ytfkabibbaajfhaa
