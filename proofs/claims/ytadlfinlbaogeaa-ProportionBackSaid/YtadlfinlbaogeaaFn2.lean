/- The functions of the program as Lean functions, each with the equation by which the evaluator is that function. Written by a program of this session (evdrive.py). Conditions: none. -/
import Derived.Test.YtadlfinlbaogeaaProg
import Derived.Test.YtadlfinlbaogeaaEvSpec
import Derived.Test.YtadlfinlbaogeaaFn1
namespace Go.Proofs.Ytadlfinlbaogeaa
open Go Go.Proofs.Ytadlfinlbaogeaa.Ev
set_option maxRecDepth 100000
set_option linter.unusedVariables false
/-! ### slices.swapRangeCmpFunc[int]: function 93 -/
noncomputable def slices_swapRangeCmpFunc_int.tb (T : Table) : Table := tab [] [] T
theorem slices_swapRangeCmpFunc_int.tbok (T : Table) (hT : TabOK Try.prog T) : TabOK Try.prog (slices_swapRangeCmpFunc_int.tb T) := TabOK.tab (hT) (all_nil _) (all_nil _)
noncomputable def slices_swapRangeCmpFunc_int.loop1 (T : Table) (a0 : SV) (a1 : Int) (a2 : Int) (a3 : Int) : (Int) × H → Option (Stp ((Int) × H) (Flow (Unit) (Unit) × H)) := fun (y1, h2) =>
(bif (decide (y1 < a3)) then (let h3 : H := H.reserve h2 0
(guardO (0 ≤ (IntKind.wrap .i64 (a2 + y1)) ∧ (IntKind.wrap .i64 (a2 + y1)) < ((a0.len : Nat) : Int)) ((rdT (.leaf (.int .i64)) h3 (V.add a0.a (Int.toNat (IntKind.wrap .i64 (a2 + y1)) * 1))).bind fun x4 =>
(guardO (0 ≤ (IntKind.wrap .i64 (a1 + y1)) ∧ (IntKind.wrap .i64 (a1 + y1)) < ((a0.len : Nat) : Int)) ((rdT (.leaf (.int .i64)) h3 (V.add a0.a (Int.toNat (IntKind.wrap .i64 (a1 + y1)) * 1))).bind fun x5 =>
(guardO (0 ≤ (IntKind.wrap .i64 (a1 + y1)) ∧ (IntKind.wrap .i64 (a1 + y1)) < ((a0.len : Nat) : Int)) ((H.wrs h3 (V.add a0.a (Int.toNat (IntKind.wrap .i64 (a1 + y1)) * 1)) [.int .i64 x4]).bind fun h6 =>
(guardO (0 ≤ (IntKind.wrap .i64 (a2 + y1)) ∧ (IntKind.wrap .i64 (a2 + y1)) < ((a0.len : Nat) : Int)) ((H.wrs h6 (V.add a0.a (Int.toNat (IntKind.wrap .i64 (a2 + y1)) * 1)) [.int .i64 x5]).bind fun h7 =>
(some (.more ((IntKind.wrap .i64 (y1 + 1)), h7)))))))))))) else (some (.done (.ex0 (), h2))))
noncomputable def slices_swapRangeCmpFunc_int (T : Table) (a0 : SV) (a1 : Int) (a2 : Int) (a3 : Int) (a4 : V) (h : H) : Option ((Unit) × H) :=
((iter FUEL (slices_swapRangeCmpFunc_int.loop1 T a0 a1 a2 a3) (0, h)).bind fun (fl9, h8) => match fl9 with
| .next _ => none
| .ret rr10 => (some (rr10, h8))
| .ex0 _ =>
(some ((), h8))
| .ex1 _ => none)
def slices_swapRangeCmpFunc_int.A : Ann := { lits := [], conds := [], loops := [(1, [10], [.leaf (.int .i64)], [], [], some 0, none)], regs := [] }
theorem slices_swapRangeCmpFunc_int.eq (T : Table) : ∀ (x : TT [.leaf .slice, .leaf (.int .i64), .leaf (.int .i64), .leaf (.int .i64), .leaf .dyn]) (h : H), evalFn Try.prog (slices_swapRangeCmpFunc_int.tb T) slices_swapRangeCmpFunc_int.A Try.f93 (.many []) (TT.un [.leaf .slice, .leaf (.int .i64), .leaf (.int .i64), .leaf (.int .i64), .leaf .dyn] x) h = slices_swapRangeCmpFunc_int T x.1 x.2.1 x.2.2.1 x.2.2.2.1 x.2.2.2.2 h := by
  intro x h
  kernel_rfl
noncomputable def slices_swapRangeCmpFunc_int.e (T : Table) : Entry := mkX [.leaf .slice, .leaf (.int .i64), .leaf (.int .i64), .leaf (.int .i64), .leaf .dyn] (.many []) fun x h => slices_swapRangeCmpFunc_int T x.1 x.2.1 x.2.2.1 x.2.2.2.1 x.2.2.2.2 h
theorem slices_swapRangeCmpFunc_int.ok (T : Table) (hT : TabOK Try.prog T) : EntryOK Try.prog 93 (slices_swapRangeCmpFunc_int.e T) := mkX_ok (slices_swapRangeCmpFunc_int.tbok T hT) Try.mixed Try.func93 (by kernel_rfl) (slices_swapRangeCmpFunc_int.eq T)

/-! ### slices.rotateCmpFunc[int]: function 92 -/
noncomputable def slices_rotateCmpFunc_int.tb (T : Table) : Table := tab [] [] T
theorem slices_rotateCmpFunc_int.tbok (T : Table) (hT : TabOK Try.prog T) : TabOK Try.prog (slices_rotateCmpFunc_int.tb T) := TabOK.tab (hT) (all_nil _) (all_nil _)
noncomputable def slices_rotateCmpFunc_int.loop1 (T : Table) (a0 : SV) (a2 : Int) (a4 : V) : (Int × Int) × H → Option (Stp ((Int × Int) × H) (Flow (Int) (Unit) × H)) := fun ((y1, y2), h3) =>
(bif (!(decide (y1 = y2))) then ((bif (decide (y2 < y1)) then ((slices_swapRangeCmpFunc_int (slices_rotateCmpFunc_int.tb T) a0 (IntKind.wrap .i64 (a2 - y1)) a2 y2 a4 h3).bind fun (_, h4) =>
(some (.next ((IntKind.wrap .i64 (y1 - y2)), y2), h4))) else ((slices_swapRangeCmpFunc_int (slices_rotateCmpFunc_int.tb T) a0 (IntKind.wrap .i64 (a2 - y1)) (IntKind.wrap .i64 ((IntKind.wrap .i64 (a2 + y2)) - y1)) y1 a4 h3).bind fun (_, h5) =>
(some (.next (y1, (IntKind.wrap .i64 (y2 - y1))), h5))) : Option (Flow (Int × Int) (Unit) × H)).bind fun (fl7, h6) => match fl7 with
| .next (y8, y9) =>
(some (.more ((y8, y9), h6)))
| .ret rr10 => (some (.done (.ret rr10, h6)))
| .ex0 _ => none
| .ex1 _ => none) else (some (.done (.ex0 y1, h3))))
noncomputable def slices_rotateCmpFunc_int (T : Table) (a0 : SV) (a1 : Int) (a2 : Int) (a3 : Int) (a4 : V) (h : H) : Option ((Unit) × H) :=
((iter FUEL (slices_rotateCmpFunc_int.loop1 T a0 a2 a4) (((IntKind.wrap .i64 (a2 - a1)), (IntKind.wrap .i64 (a3 - a2))), h)).bind fun (fl12, h11) => match fl12 with
| .next _ => none
| .ret rr13 => (some (rr13, h11))
| .ex0 y14 =>
((slices_swapRangeCmpFunc_int (slices_rotateCmpFunc_int.tb T) a0 (IntKind.wrap .i64 (a2 - y14)) a2 y14 a4 h11).bind fun (_, h15) =>
(some ((), h15)))
| .ex1 _ => none)
def slices_rotateCmpFunc_int.A : Ann := { lits := [], conds := [(23, [10, 11], [.leaf (.int .i64), .leaf (.int .i64)], none, none)], loops := [(2, [10, 11], [.leaf (.int .i64), .leaf (.int .i64)], [10], [.leaf (.int .i64)], some 0, none)], regs := [] }
noncomputable def slices_rotateCmpFunc_int.tc (T : Table) : Table := tab [(93, slices_swapRangeCmpFunc_int.e (slices_rotateCmpFunc_int.tb T))] [] (slices_rotateCmpFunc_int.tb T)
theorem slices_rotateCmpFunc_int.tcok (T : Table) (hT : TabOK Try.prog T) : TabOK Try.prog (slices_rotateCmpFunc_int.tc T) := TabOK.tab (slices_rotateCmpFunc_int.tbok T hT) (all_cons (slices_swapRangeCmpFunc_int.ok _ (slices_rotateCmpFunc_int.tbok T hT)) (all_nil _)) (all_nil _)
theorem slices_rotateCmpFunc_int.eq (T : Table) : ∀ (x : TT [.leaf .slice, .leaf (.int .i64), .leaf (.int .i64), .leaf (.int .i64), .leaf .dyn]) (h : H), evalFn Try.prog (slices_rotateCmpFunc_int.tc T) slices_rotateCmpFunc_int.A Try.f92 (.many []) (TT.un [.leaf .slice, .leaf (.int .i64), .leaf (.int .i64), .leaf (.int .i64), .leaf .dyn] x) h = slices_rotateCmpFunc_int T x.1 x.2.1 x.2.2.1 x.2.2.2.1 x.2.2.2.2 h := by
  intro x h
  kernel_rfl
noncomputable def slices_rotateCmpFunc_int.e (T : Table) : Entry := mkX [.leaf .slice, .leaf (.int .i64), .leaf (.int .i64), .leaf (.int .i64), .leaf .dyn] (.many []) fun x h => slices_rotateCmpFunc_int T x.1 x.2.1 x.2.2.1 x.2.2.2.1 x.2.2.2.2 h
theorem slices_rotateCmpFunc_int.ok (T : Table) (hT : TabOK Try.prog T) : EntryOK Try.prog 92 (slices_rotateCmpFunc_int.e T) := mkX_ok (slices_rotateCmpFunc_int.tcok T hT) Try.mixed Try.func92 (by kernel_rfl) (slices_rotateCmpFunc_int.eq T)

/-! ### slices.symMergeCmpFunc[int]: function 90 -/
noncomputable def slices_symMergeCmpFunc_int.tb (T : Table) : Table := tab [] [] T
theorem slices_symMergeCmpFunc_int.tbok (T : Table) (hT : TabOK Try.prog T) : TabOK Try.prog (slices_symMergeCmpFunc_int.tb T) := TabOK.tab (hT) (all_nil _) (all_nil _)
noncomputable def slices_symMergeCmpFunc_int.loop1 (T : Table) (a0 : SV) (a1 : Int) (a4 : V) : (Int × Int) × H → Option (Stp ((Int × Int) × H) (Flow (Int) (Unit) × H)) := fun ((y1, y2), h3) =>
(bif (decide (y1 < y2)) then (let h4 : H := H.reserve h3 0
(guardO (0 ≤ (IntKind.wrap .i64 ((Int.fdiv (IntKind.wrap .u64 ((IntKind.wrap .i64 (y1 + y2)))) (2 ^ (min (Int.toNat 1) (IntKind.bits .u64)))))) ∧ (IntKind.wrap .i64 ((Int.fdiv (IntKind.wrap .u64 ((IntKind.wrap .i64 (y1 + y2)))) (2 ^ (min (Int.toNat 1) (IntKind.bits .u64)))))) < ((a0.len : Nat) : Int)) ((rdT (.leaf (.int .i64)) h4 (V.add a0.a (Int.toNat (IntKind.wrap .i64 ((Int.fdiv (IntKind.wrap .u64 ((IntKind.wrap .i64 (y1 + y2)))) (2 ^ (min (Int.toNat 1) (IntKind.bits .u64)))))) * 1))).bind fun x5 =>
(guardO (0 ≤ a1 ∧ a1 < ((a0.len : Nat) : Int)) ((rdT (.leaf (.int .i64)) h4 (V.add a0.a (Int.toNat a1 * 1))).bind fun x6 =>
(callV T.dy a4 [.int .i64 x5, .int .i64 x6] h4 fun v7 h8 =>
(Res.pack (.one (.leaf (.int .i64))) v7).bind fun r9 =>
((bif (decide (r9 < 0)) then (some (.next ((IntKind.wrap .i64 ((IntKind.wrap .i64 ((Int.fdiv (IntKind.wrap .u64 ((IntKind.wrap .i64 (y1 + y2)))) (2 ^ (min (Int.toNat 1) (IntKind.bits .u64)))))) + 1)), y2), h8)) else (some (.next (y1, (IntKind.wrap .i64 ((Int.fdiv (IntKind.wrap .u64 ((IntKind.wrap .i64 (y1 + y2)))) (2 ^ (min (Int.toNat 1) (IntKind.bits .u64))))))), h8)) : Option (Flow (Int × Int) (Unit) × H)).bind fun (fl11, h10) => match fl11 with
| .next (y12, y13) =>
(some (.more ((y12, y13), h10)))
| .ret rr14 => (some (.done (.ret rr14, h10)))
| .ex0 _ => none
| .ex1 _ => none))))))) else (some (.done (.ex0 y1, h3))))
noncomputable def slices_symMergeCmpFunc_int.loop2 (T : Table) (a0 : SV) (y18 : Int) : (Int) × H → Option (Stp ((Int) × H) (Flow (Unit) (Unit) × H)) := fun (y19, h20) =>
(bif (decide (y19 < (IntKind.wrap .i64 (y18 - 1)))) then (let h21 : H := H.reserve h20 0
(guardO (0 ≤ (IntKind.wrap .i64 (y19 + 1)) ∧ (IntKind.wrap .i64 (y19 + 1)) < ((a0.len : Nat) : Int)) ((rdT (.leaf (.int .i64)) h21 (V.add a0.a (Int.toNat (IntKind.wrap .i64 (y19 + 1)) * 1))).bind fun x22 =>
(guardO (0 ≤ y19 ∧ y19 < ((a0.len : Nat) : Int)) ((rdT (.leaf (.int .i64)) h21 (V.add a0.a (Int.toNat y19 * 1))).bind fun x23 =>
(guardO (0 ≤ y19 ∧ y19 < ((a0.len : Nat) : Int)) ((H.wrs h21 (V.add a0.a (Int.toNat y19 * 1)) [.int .i64 x22]).bind fun h24 =>
(guardO (0 ≤ (IntKind.wrap .i64 (y19 + 1)) ∧ (IntKind.wrap .i64 (y19 + 1)) < ((a0.len : Nat) : Int)) ((H.wrs h24 (V.add a0.a (Int.toNat (IntKind.wrap .i64 (y19 + 1)) * 1)) [.int .i64 x23]).bind fun h25 =>
(some (.more ((IntKind.wrap .i64 (y19 + 1)), h25)))))))))))) else (some (.done (.ex0 (), h20))))
noncomputable def slices_symMergeCmpFunc_int.loop3 (T : Table) (a0 : SV) (a2 : Int) (a4 : V) : (Int × Int) × H → Option (Stp ((Int × Int) × H) (Flow (Int) (Unit) × H)) := fun ((y29, y30), h31) =>
(bif (decide (y29 < y30)) then (let h32 : H := H.reserve h31 0
(guardO (0 ≤ a2 ∧ a2 < ((a0.len : Nat) : Int)) ((rdT (.leaf (.int .i64)) h32 (V.add a0.a (Int.toNat a2 * 1))).bind fun x33 =>
(guardO (0 ≤ (IntKind.wrap .i64 ((Int.fdiv (IntKind.wrap .u64 ((IntKind.wrap .i64 (y29 + y30)))) (2 ^ (min (Int.toNat 1) (IntKind.bits .u64)))))) ∧ (IntKind.wrap .i64 ((Int.fdiv (IntKind.wrap .u64 ((IntKind.wrap .i64 (y29 + y30)))) (2 ^ (min (Int.toNat 1) (IntKind.bits .u64)))))) < ((a0.len : Nat) : Int)) ((rdT (.leaf (.int .i64)) h32 (V.add a0.a (Int.toNat (IntKind.wrap .i64 ((Int.fdiv (IntKind.wrap .u64 ((IntKind.wrap .i64 (y29 + y30)))) (2 ^ (min (Int.toNat 1) (IntKind.bits .u64)))))) * 1))).bind fun x34 =>
(callV T.dy a4 [.int .i64 x33, .int .i64 x34] h32 fun v35 h36 =>
(Res.pack (.one (.leaf (.int .i64))) v35).bind fun r37 =>
((bif (!(decide (r37 < 0))) then (some (.next ((IntKind.wrap .i64 ((IntKind.wrap .i64 ((Int.fdiv (IntKind.wrap .u64 ((IntKind.wrap .i64 (y29 + y30)))) (2 ^ (min (Int.toNat 1) (IntKind.bits .u64)))))) + 1)), y30), h36)) else (some (.next (y29, (IntKind.wrap .i64 ((Int.fdiv (IntKind.wrap .u64 ((IntKind.wrap .i64 (y29 + y30)))) (2 ^ (min (Int.toNat 1) (IntKind.bits .u64))))))), h36)) : Option (Flow (Int × Int) (Unit) × H)).bind fun (fl39, h38) => match fl39 with
| .next (y40, y41) =>
(some (.more ((y40, y41), h38)))
| .ret rr42 => (some (.done (.ret rr42, h38)))
| .ex0 _ => none
| .ex1 _ => none))))))) else (some (.done (.ex0 y29, h31))))
noncomputable def slices_symMergeCmpFunc_int.loop4 (T : Table) (a0 : SV) (y46 : Int) : (Int) × H → Option (Stp ((Int) × H) (Flow (Unit) (Unit) × H)) := fun (y47, h48) =>
(bif (decide (y46 < y47)) then (let h49 : H := H.reserve h48 0
(guardO (0 ≤ (IntKind.wrap .i64 (y47 - 1)) ∧ (IntKind.wrap .i64 (y47 - 1)) < ((a0.len : Nat) : Int)) ((rdT (.leaf (.int .i64)) h49 (V.add a0.a (Int.toNat (IntKind.wrap .i64 (y47 - 1)) * 1))).bind fun x50 =>
(guardO (0 ≤ y47 ∧ y47 < ((a0.len : Nat) : Int)) ((rdT (.leaf (.int .i64)) h49 (V.add a0.a (Int.toNat y47 * 1))).bind fun x51 =>
(guardO (0 ≤ y47 ∧ y47 < ((a0.len : Nat) : Int)) ((H.wrs h49 (V.add a0.a (Int.toNat y47 * 1)) [.int .i64 x50]).bind fun h52 =>
(guardO (0 ≤ (IntKind.wrap .i64 (y47 - 1)) ∧ (IntKind.wrap .i64 (y47 - 1)) < ((a0.len : Nat) : Int)) ((H.wrs h52 (V.add a0.a (Int.toNat (IntKind.wrap .i64 (y47 - 1)) * 1)) [.int .i64 x51]).bind fun h53 =>
(some (.more ((IntKind.wrap .i64 (y47 - 1)), h53)))))))))))) else (some (.done (.ex0 (), h48))))
noncomputable def slices_symMergeCmpFunc_int.loop5 (T : Table) (a0 : SV) (a1 : Int) (a2 : Int) (a3 : Int) (a4 : V) : (Int × Int) × H → Option (Stp ((Int × Int) × H) (Flow (Int) (Unit) × H)) := fun ((y61, y62), h63) =>
(bif (decide (y61 < y62)) then (let h64 : H := H.reserve h63 0
(guardO (0 ≤ (IntKind.wrap .i64 ((IntKind.wrap .i64 ((IntKind.wrap .i64 ((IntKind.wrap .i64 ((Int.fdiv (IntKind.wrap .u64 ((IntKind.wrap .i64 (a1 + a3)))) (2 ^ (min (Int.toNat 1) (IntKind.bits .u64)))))) + a2)) - 1)) - (IntKind.wrap .i64 ((Int.fdiv (IntKind.wrap .u64 ((IntKind.wrap .i64 (y61 + y62)))) (2 ^ (min (Int.toNat 1) (IntKind.bits .u64)))))))) ∧ (IntKind.wrap .i64 ((IntKind.wrap .i64 ((IntKind.wrap .i64 ((IntKind.wrap .i64 ((Int.fdiv (IntKind.wrap .u64 ((IntKind.wrap .i64 (a1 + a3)))) (2 ^ (min (Int.toNat 1) (IntKind.bits .u64)))))) + a2)) - 1)) - (IntKind.wrap .i64 ((Int.fdiv (IntKind.wrap .u64 ((IntKind.wrap .i64 (y61 + y62)))) (2 ^ (min (Int.toNat 1) (IntKind.bits .u64)))))))) < ((a0.len : Nat) : Int)) ((rdT (.leaf (.int .i64)) h64 (V.add a0.a (Int.toNat (IntKind.wrap .i64 ((IntKind.wrap .i64 ((IntKind.wrap .i64 ((IntKind.wrap .i64 ((Int.fdiv (IntKind.wrap .u64 ((IntKind.wrap .i64 (a1 + a3)))) (2 ^ (min (Int.toNat 1) (IntKind.bits .u64)))))) + a2)) - 1)) - (IntKind.wrap .i64 ((Int.fdiv (IntKind.wrap .u64 ((IntKind.wrap .i64 (y61 + y62)))) (2 ^ (min (Int.toNat 1) (IntKind.bits .u64)))))))) * 1))).bind fun x65 =>
(guardO (0 ≤ (IntKind.wrap .i64 ((Int.fdiv (IntKind.wrap .u64 ((IntKind.wrap .i64 (y61 + y62)))) (2 ^ (min (Int.toNat 1) (IntKind.bits .u64)))))) ∧ (IntKind.wrap .i64 ((Int.fdiv (IntKind.wrap .u64 ((IntKind.wrap .i64 (y61 + y62)))) (2 ^ (min (Int.toNat 1) (IntKind.bits .u64)))))) < ((a0.len : Nat) : Int)) ((rdT (.leaf (.int .i64)) h64 (V.add a0.a (Int.toNat (IntKind.wrap .i64 ((Int.fdiv (IntKind.wrap .u64 ((IntKind.wrap .i64 (y61 + y62)))) (2 ^ (min (Int.toNat 1) (IntKind.bits .u64)))))) * 1))).bind fun x66 =>
(callV T.dy a4 [.int .i64 x65, .int .i64 x66] h64 fun v67 h68 =>
(Res.pack (.one (.leaf (.int .i64))) v67).bind fun r69 =>
((bif (!(decide (r69 < 0))) then (some (.next ((IntKind.wrap .i64 ((IntKind.wrap .i64 ((Int.fdiv (IntKind.wrap .u64 ((IntKind.wrap .i64 (y61 + y62)))) (2 ^ (min (Int.toNat 1) (IntKind.bits .u64)))))) + 1)), y62), h68)) else (some (.next (y61, (IntKind.wrap .i64 ((Int.fdiv (IntKind.wrap .u64 ((IntKind.wrap .i64 (y61 + y62)))) (2 ^ (min (Int.toNat 1) (IntKind.bits .u64))))))), h68)) : Option (Flow (Int × Int) (Unit) × H)).bind fun (fl71, h70) => match fl71 with
| .next (y72, y73) =>
(some (.more ((y72, y73), h70)))
| .ret rr74 => (some (.done (.ret rr74, h70)))
| .ex0 _ => none
| .ex1 _ => none))))))) else (some (.done (.ex0 y61, h63))))
noncomputable def slices_symMergeCmpFunc_int.step (T : Table) (rec : SV → Int → Int → Int → V → H → Option ((Unit) × H)) (a0 : SV) (a1 : Int) (a2 : Int) (a3 : Int) (a4 : V) (h : H) : Option ((Unit) × H) :=
(bif (decide ((IntKind.wrap .i64 (a2 - a1)) = 1)) then ((iter FUEL (slices_symMergeCmpFunc_int.loop1 T a0 a1 a4) ((a2, a3), h)).bind fun (fl16, h15) => match fl16 with
| .next _ => none
| .ret rr17 => (some (rr17, h15))
| .ex0 y18 =>
((iter FUEL (slices_symMergeCmpFunc_int.loop2 T a0 y18) (a1, h15)).bind fun (fl27, h26) => match fl27 with
| .next _ => none
| .ret rr28 => (some (rr28, h26))
| .ex0 _ =>
(some ((), h26))
| .ex1 _ => none)
| .ex1 _ => none) else (bif (decide ((IntKind.wrap .i64 (a3 - a2)) = 1)) then ((iter FUEL (slices_symMergeCmpFunc_int.loop3 T a0 a2 a4) ((a1, a2), h)).bind fun (fl44, h43) => match fl44 with
| .next _ => none
| .ret rr45 => (some (rr45, h43))
| .ex0 y46 =>
((iter FUEL (slices_symMergeCmpFunc_int.loop4 T a0 y46) (a2, h43)).bind fun (fl55, h54) => match fl55 with
| .next _ => none
| .ret rr56 => (some (rr56, h54))
| .ex0 _ =>
(some ((), h54))
| .ex1 _ => none)
| .ex1 _ => none) else ((bif (decide ((IntKind.wrap .i64 ((Int.fdiv (IntKind.wrap .u64 ((IntKind.wrap .i64 (a1 + a3)))) (2 ^ (min (Int.toNat 1) (IntKind.bits .u64)))))) < a2)) then (some (.next ((IntKind.wrap .i64 ((IntKind.wrap .i64 ((IntKind.wrap .i64 ((Int.fdiv (IntKind.wrap .u64 ((IntKind.wrap .i64 (a1 + a3)))) (2 ^ (min (Int.toNat 1) (IntKind.bits .u64)))))) + a2)) - a3)), (IntKind.wrap .i64 ((Int.fdiv (IntKind.wrap .u64 ((IntKind.wrap .i64 (a1 + a3)))) (2 ^ (min (Int.toNat 1) (IntKind.bits .u64))))))), h)) else (some (.next (a1, a2), h)) : Option (Flow (Int × Int) (Unit) × H)).bind fun (fl58, h57) => match fl58 with
| .next (y59, y60) =>
((iter FUEL (slices_symMergeCmpFunc_int.loop5 T a0 a1 a2 a3 a4) ((y59, y60), h57)).bind fun (fl76, h75) => match fl76 with
| .next _ => none
| .ret rr77 => (some (rr77, h75))
| .ex0 y78 =>
(((bif (decide (y78 < a2)) then (some ((decide (a2 < (IntKind.wrap .i64 ((IntKind.wrap .i64 ((IntKind.wrap .i64 ((Int.fdiv (IntKind.wrap .u64 ((IntKind.wrap .i64 (a1 + a3)))) (2 ^ (min (Int.toNat 1) (IntKind.bits .u64)))))) + a2)) - y78)))), h75)) else (some (false, h75)))).bind fun (y79, h80) =>
((bif y79 then ((slices_rotateCmpFunc_int (slices_symMergeCmpFunc_int.tb T) a0 y78 a2 (IntKind.wrap .i64 ((IntKind.wrap .i64 ((IntKind.wrap .i64 ((Int.fdiv (IntKind.wrap .u64 ((IntKind.wrap .i64 (a1 + a3)))) (2 ^ (min (Int.toNat 1) (IntKind.bits .u64)))))) + a2)) - y78)) a4 h80).bind fun (_, h81) =>
(some (.next (), h81))) else (some (.next (), h80)) : Option (Flow (Unit) (Unit) × H)).bind fun (fl83, h82) => match fl83 with
| .next _ =>
(((bif (decide (a1 < y78)) then (some ((decide (y78 < (IntKind.wrap .i64 ((Int.fdiv (IntKind.wrap .u64 ((IntKind.wrap .i64 (a1 + a3)))) (2 ^ (min (Int.toNat 1) (IntKind.bits .u64)))))))), h82)) else (some (false, h82)))).bind fun (y84, h85) =>
((bif y84 then ((rec a0 a1 y78 (IntKind.wrap .i64 ((Int.fdiv (IntKind.wrap .u64 ((IntKind.wrap .i64 (a1 + a3)))) (2 ^ (min (Int.toNat 1) (IntKind.bits .u64)))))) a4 h85).bind fun (_, h86) =>
(some (.next (), h86))) else (some (.next (), h85)) : Option (Flow (Unit) (Unit) × H)).bind fun (fl88, h87) => match fl88 with
| .next _ =>
(((bif (decide ((IntKind.wrap .i64 ((Int.fdiv (IntKind.wrap .u64 ((IntKind.wrap .i64 (a1 + a3)))) (2 ^ (min (Int.toNat 1) (IntKind.bits .u64)))))) < (IntKind.wrap .i64 ((IntKind.wrap .i64 ((IntKind.wrap .i64 ((Int.fdiv (IntKind.wrap .u64 ((IntKind.wrap .i64 (a1 + a3)))) (2 ^ (min (Int.toNat 1) (IntKind.bits .u64)))))) + a2)) - y78)))) then (some ((decide ((IntKind.wrap .i64 ((IntKind.wrap .i64 ((IntKind.wrap .i64 ((Int.fdiv (IntKind.wrap .u64 ((IntKind.wrap .i64 (a1 + a3)))) (2 ^ (min (Int.toNat 1) (IntKind.bits .u64)))))) + a2)) - y78)) < a3)), h87)) else (some (false, h87)))).bind fun (y89, h90) =>
((bif y89 then ((rec a0 (IntKind.wrap .i64 ((Int.fdiv (IntKind.wrap .u64 ((IntKind.wrap .i64 (a1 + a3)))) (2 ^ (min (Int.toNat 1) (IntKind.bits .u64)))))) (IntKind.wrap .i64 ((IntKind.wrap .i64 ((IntKind.wrap .i64 ((Int.fdiv (IntKind.wrap .u64 ((IntKind.wrap .i64 (a1 + a3)))) (2 ^ (min (Int.toNat 1) (IntKind.bits .u64)))))) + a2)) - y78)) a3 a4 h90).bind fun (_, h91) =>
(some (.next (), h91))) else (some (.next (), h90)) : Option (Flow (Unit) (Unit) × H)).bind fun (fl93, h92) => match fl93 with
| .next _ =>
(some ((), h92))
| .ret rr94 => (some (rr94, h92))
| .ex0 _ => none
| .ex1 _ => none))
| .ret rr95 => (some (rr95, h87))
| .ex0 _ => none
| .ex1 _ => none))
| .ret rr96 => (some (rr96, h82))
| .ex0 _ => none
| .ex1 _ => none))
| .ex1 _ => none)
| .ret rr97 => (some (rr97, h57))
| .ex0 _ => none
| .ex1 _ => none)))
noncomputable def slices_symMergeCmpFunc_int.lev (T : Table) (n : Nat) : SV → Int → Int → Int → V → H → Option ((Unit) × H) := Nat.rec (fun _a0 _a1 _a2 _a3 _a4 _ => none) (fun _ r => slices_symMergeCmpFunc_int.step T r) n
noncomputable def slices_symMergeCmpFunc_int (T : Table) (a0 : SV) (a1 : Int) (a2 : Int) (a3 : Int) (a4 : V) (h : H) : Option ((Unit) × H) := slices_symMergeCmpFunc_int.lev T 40 a0 a1 a2 a3 a4 h
def slices_symMergeCmpFunc_int.A : Ann := { lits := [], conds := [(50, [10, 11], [.leaf (.int .i64), .leaf (.int .i64)], none, none), (103, [14, 15], [.leaf (.int .i64), .leaf (.int .i64)], none, none), (140, [20, 21], [.leaf (.int .i64), .leaf (.int .i64)], none, none), (171, [20, 21], [.leaf (.int .i64), .leaf (.int .i64)], none, none), (185, [], [], none, none), (199, [], [], none, none), (213, [], [], none, none)], loops := [(3, [10, 11], [.leaf (.int .i64), .leaf (.int .i64)], [10], [.leaf (.int .i64)], some 0, none), (9, [13], [.leaf (.int .i64)], [], [], some 2, none), (15, [14, 15], [.leaf (.int .i64), .leaf (.int .i64)], [14], [.leaf (.int .i64)], some 4, none), (21, [17], [.leaf (.int .i64)], [], [], some 6, none), (33, [20, 21], [.leaf (.int .i64), .leaf (.int .i64)], [20], [.leaf (.int .i64)], some 8, none)], regs := [(39, [185], [.leaf .bool]), (41, [199], [.leaf .bool]), (43, [213], [.leaf .bool])] }
noncomputable def slices_symMergeCmpFunc_int.tc (T : Table) : Table := tab [(92, slices_rotateCmpFunc_int.e (slices_symMergeCmpFunc_int.tb T))] [] (slices_symMergeCmpFunc_int.tb T)
theorem slices_symMergeCmpFunc_int.tcok (T : Table) (hT : TabOK Try.prog T) : TabOK Try.prog (slices_symMergeCmpFunc_int.tc T) := TabOK.tab (slices_symMergeCmpFunc_int.tbok T hT) (all_cons (slices_rotateCmpFunc_int.ok _ (slices_symMergeCmpFunc_int.tbok T hT)) (all_nil _)) (all_nil _)
noncomputable def slices_symMergeCmpFunc_int.el (T : Table) (n : Nat) : Entry := mkX [.leaf .slice, .leaf (.int .i64), .leaf (.int .i64), .leaf (.int .i64), .leaf .dyn] (.many []) fun x h => slices_symMergeCmpFunc_int.lev T n x.1 x.2.1 x.2.2.1 x.2.2.2.1 x.2.2.2.2 h
noncomputable def slices_symMergeCmpFunc_int.tr (T : Table) (n : Nat) : Table := tab [(90, slices_symMergeCmpFunc_int.el T n)] [] (slices_symMergeCmpFunc_int.tc T)
theorem slices_symMergeCmpFunc_int.eq (T : Table) : ∀ (n : Nat) (x : TT [.leaf .slice, .leaf (.int .i64), .leaf (.int .i64), .leaf (.int .i64), .leaf .dyn]) (h : H), evalFn Try.prog (slices_symMergeCmpFunc_int.tr T n) slices_symMergeCmpFunc_int.A Try.f90 (.many []) (TT.un [.leaf .slice, .leaf (.int .i64), .leaf (.int .i64), .leaf (.int .i64), .leaf .dyn] x) h = slices_symMergeCmpFunc_int.lev T (n + 1) x.1 x.2.1 x.2.2.1 x.2.2.2.1 x.2.2.2.2 h := by
  intro n x h
  kernel_rfl
theorem slices_symMergeCmpFunc_int.okl (T : Table) (hT : TabOK Try.prog T) (n : Nat) : EntryOK Try.prog 90 (slices_symMergeCmpFunc_int.el T n) := by
  induction n with
  | zero => exact mkX_none
  | succ n ih => exact mkX_ok (TabOK.tab (slices_symMergeCmpFunc_int.tcok T hT) (all_cons ih (all_nil _)) (all_nil _)) Try.mixed Try.func90 (by kernel_rfl) (slices_symMergeCmpFunc_int.eq T n)
noncomputable def slices_symMergeCmpFunc_int.e (T : Table) : Entry := slices_symMergeCmpFunc_int.el T 40
theorem slices_symMergeCmpFunc_int.ok (T : Table) (hT : TabOK Try.prog T) : EntryOK Try.prog 90 (slices_symMergeCmpFunc_int.e T) := slices_symMergeCmpFunc_int.okl T hT 40

/-! ### slices.stableCmpFunc[int]: function 82 -/
noncomputable def slices_stableCmpFunc_int.tb (T : Table) : Table := tab [] [] T
theorem slices_stableCmpFunc_int.tbok (T : Table) (hT : TabOK Try.prog T) : TabOK Try.prog (slices_stableCmpFunc_int.tb T) := TabOK.tab (hT) (all_nil _) (all_nil _)
noncomputable def slices_stableCmpFunc_int.loop1 (T : Table) (a0 : SV) (a1 : Int) (a2 : V) : (Int × Int) × H → Option (Stp ((Int × Int) × H) (Flow (Int) (Unit) × H)) := fun ((y1, y2), h3) =>
(bif (decide (y2 ≤ a1)) then ((slices_insertionSortCmpFunc_int (slices_stableCmpFunc_int.tb T) a0 y1 y2 a2 h3).bind fun (_, h4) =>
(some (.more ((y2, (IntKind.wrap .i64 (y2 + 20))), h4)))) else (some (.done (.ex0 y1, h3))))
noncomputable def slices_stableCmpFunc_int.loop2 (T : Table) (a0 : SV) (a1 : Int) (a2 : V) (y10 : Int) : (Int × Int) × H → Option (Stp ((Int × Int) × H) (Flow (Int) (Unit) × H)) := fun ((y12, y13), h14) =>
(bif (decide (y13 ≤ a1)) then ((slices_symMergeCmpFunc_int (slices_stableCmpFunc_int.tb T) a0 y12 (IntKind.wrap .i64 (y12 + y10)) y13 a2 h14).bind fun (_, h15) =>
(some (.more ((y13, (IntKind.wrap .i64 (y13 + (IntKind.wrap .i64 (2 * y10))))), h15)))) else (some (.done (.ex0 y12, h14))))
noncomputable def slices_stableCmpFunc_int.loop3 (T : Table) (a0 : SV) (a1 : Int) (a2 : V) : (Int) × H → Option (Stp ((Int) × H) (Flow (Unit) (Unit) × H)) := fun (y10, h11) =>
(bif (decide (y10 < a1)) then ((iter FUEL (slices_stableCmpFunc_int.loop2 T a0 a1 a2 y10) ((0, (IntKind.wrap .i64 (2 * y10))), h11)).bind fun (fl17, h16) => match fl17 with
| .next _ => none
| .ret rr18 => (some (.done (.ret rr18, h16)))
| .ex0 y19 =>
((bif (decide ((IntKind.wrap .i64 (y19 + y10)) < a1)) then ((slices_symMergeCmpFunc_int (slices_stableCmpFunc_int.tb T) a0 y19 (IntKind.wrap .i64 (y19 + y10)) a1 a2 h16).bind fun (_, h20) =>
(some (.next (), h20))) else (some (.next (), h16)) : Option (Flow (Unit) (Unit) × H)).bind fun (fl22, h21) => match fl22 with
| .next _ =>
(some (.more ((IntKind.wrap .i64 (y10 * 2)), h21)))
| .ret rr23 => (some (.done (.ret rr23, h21)))
| .ex0 _ => none
| .ex1 _ => none)
| .ex1 _ => none) else (some (.done (.ex0 (), h11))))
noncomputable def slices_stableCmpFunc_int (T : Table) (a0 : SV) (a1 : Int) (a2 : V) (h : H) : Option ((Unit) × H) :=
((iter FUEL (slices_stableCmpFunc_int.loop1 T a0 a1 a2) ((0, 20), h)).bind fun (fl6, h5) => match fl6 with
| .next _ => none
| .ret rr7 => (some (rr7, h5))
| .ex0 y8 =>
((slices_insertionSortCmpFunc_int (slices_stableCmpFunc_int.tb T) a0 y8 a1 a2 h5).bind fun (_, h9) =>
((iter FUEL (slices_stableCmpFunc_int.loop3 T a0 a1 a2) (20, h9)).bind fun (fl25, h24) => match fl25 with
| .next _ => none
| .ret rr26 => (some (rr26, h24))
| .ex0 _ =>
(some ((), h24))
| .ex1 _ => none))
| .ex1 _ => none)
def slices_stableCmpFunc_int.A : Ann := { lits := [], conds := [(54, [], [], none, none)], loops := [(2, [7, 8], [.leaf (.int .i64), .leaf (.int .i64)], [7], [.leaf (.int .i64)], some 0, none), (9, [7, 8], [.leaf (.int .i64), .leaf (.int .i64)], [7], [.leaf (.int .i64)], some 4, none), (7, [6], [.leaf (.int .i64)], [], [], some 2, none)], regs := [] }
noncomputable def slices_stableCmpFunc_int.tc (T : Table) : Table := tab [(89, slices_insertionSortCmpFunc_int.e (slices_stableCmpFunc_int.tb T)), (90, slices_symMergeCmpFunc_int.e (slices_stableCmpFunc_int.tb T))] [] (slices_stableCmpFunc_int.tb T)
theorem slices_stableCmpFunc_int.tcok (T : Table) (hT : TabOK Try.prog T) : TabOK Try.prog (slices_stableCmpFunc_int.tc T) := TabOK.tab (slices_stableCmpFunc_int.tbok T hT) (all_cons (slices_insertionSortCmpFunc_int.ok _ (slices_stableCmpFunc_int.tbok T hT)) (all_cons (slices_symMergeCmpFunc_int.ok _ (slices_stableCmpFunc_int.tbok T hT)) (all_nil _))) (all_nil _)
theorem slices_stableCmpFunc_int.eq (T : Table) : ∀ (x : TT [.leaf .slice, .leaf (.int .i64), .leaf .dyn]) (h : H), evalFn Try.prog (slices_stableCmpFunc_int.tc T) slices_stableCmpFunc_int.A Try.f82 (.many []) (TT.un [.leaf .slice, .leaf (.int .i64), .leaf .dyn] x) h = slices_stableCmpFunc_int T x.1 x.2.1 x.2.2 h := by
  intro x h
  kernel_rfl
noncomputable def slices_stableCmpFunc_int.e (T : Table) : Entry := mkX [.leaf .slice, .leaf (.int .i64), .leaf .dyn] (.many []) fun x h => slices_stableCmpFunc_int T x.1 x.2.1 x.2.2 h
theorem slices_stableCmpFunc_int.ok (T : Table) (hT : TabOK Try.prog T) : EntryOK Try.prog 82 (slices_stableCmpFunc_int.e T) := mkX_ok (slices_stableCmpFunc_int.tcok T hT) Try.mixed Try.func82 (by kernel_rfl) (slices_stableCmpFunc_int.eq T)

/-! ### slices.SortStableFunc[[]int,int]: function 61 -/
noncomputable def slices_SortStableFunc_int_int.tb (T : Table) : Table := tab [] [] T
theorem slices_SortStableFunc_int_int.tbok (T : Table) (hT : TabOK Try.prog T) : TabOK Try.prog (slices_SortStableFunc_int_int.tb T) := TabOK.tab (hT) (all_nil _) (all_nil _)
noncomputable def slices_SortStableFunc_int_int (T : Table) (a0 : SV) (a1 : V) (h : H) : Option ((Unit) × H) :=
((slices_stableCmpFunc_int (slices_SortStableFunc_int_int.tb T) a0 ((a0.len : Nat) : Int) a1 h).bind fun (_, h1) =>
(some ((), h1)))
def slices_SortStableFunc_int_int.A : Ann := { lits := [], conds := [], loops := [], regs := [] }
noncomputable def slices_SortStableFunc_int_int.tc (T : Table) : Table := tab [(82, slices_stableCmpFunc_int.e (slices_SortStableFunc_int_int.tb T))] [] (slices_SortStableFunc_int_int.tb T)
theorem slices_SortStableFunc_int_int.tcok (T : Table) (hT : TabOK Try.prog T) : TabOK Try.prog (slices_SortStableFunc_int_int.tc T) := TabOK.tab (slices_SortStableFunc_int_int.tbok T hT) (all_cons (slices_stableCmpFunc_int.ok _ (slices_SortStableFunc_int_int.tbok T hT)) (all_nil _)) (all_nil _)
theorem slices_SortStableFunc_int_int.eq (T : Table) : ∀ (x : TT [.leaf .slice, .leaf .dyn]) (h : H), evalFn Try.prog (slices_SortStableFunc_int_int.tc T) slices_SortStableFunc_int_int.A Try.f61 (.many []) (TT.un [.leaf .slice, .leaf .dyn] x) h = slices_SortStableFunc_int_int T x.1 x.2 h := by
  intro x h
  kernel_rfl
noncomputable def slices_SortStableFunc_int_int.e (T : Table) : Entry := mkX [.leaf .slice, .leaf .dyn] (.many []) fun x h => slices_SortStableFunc_int_int T x.1 x.2 h
theorem slices_SortStableFunc_int_int.ok (T : Table) (hT : TabOK Try.prog T) : EntryOK Try.prog 61 (slices_SortStableFunc_int_int.e T) := mkX_ok (slices_SortStableFunc_int_int.tcok T hT) Try.mixed Try.func61 (by kernel_rfl) (slices_SortStableFunc_int_int.eq T)

/-! ### cmp.isNaN[int]: function 83 -/
noncomputable def cmp_isNaN_int.tb : Table := tab [] [] Table.nil
theorem cmp_isNaN_int.tbok : TabOK Try.prog (cmp_isNaN_int.tb) := TabOK.tab (TabOK.nil Try.prog) (all_nil _) (all_nil _)
noncomputable def cmp_isNaN_int (a0 : Int) (h : H) : Option ((Bool) × H) :=
(some ((!(decide (a0 = a0))), h))
def cmp_isNaN_int.A : Ann := { lits := [], conds := [], loops := [], regs := [] }
theorem cmp_isNaN_int.eq : ∀ (x : TT [.leaf (.int .i64)]) (h : H), evalFn Try.prog (cmp_isNaN_int.tb) cmp_isNaN_int.A Try.f83 (.one (.leaf .bool)) (TT.un [.leaf (.int .i64)] x) h = cmp_isNaN_int x h := by
  intro x h
  kernel_rfl
noncomputable def cmp_isNaN_int.e : Entry := mkX [.leaf (.int .i64)] (.one (.leaf .bool)) fun x h => cmp_isNaN_int x h
theorem cmp_isNaN_int.ok : EntryOK Try.prog 83 (cmp_isNaN_int.e) := mkX_ok (cmp_isNaN_int.tbok) Try.mixed Try.func83 (by kernel_rfl) (cmp_isNaN_int.eq)
noncomputable def cmp_isNaN_intP (a0 : Int) : Option (Bool) := (cmp_isNaN_int a0 H.empty).bind fun p => rdRes false p.2 (.one (.leaf .bool)) (Res.un (.one (.leaf .bool)) p.1)
theorem cmp_isNaN_intP.eq : ∀ x : TT [.leaf (.int .i64)], ((evalFn Try.prog (cmp_isNaN_int.tb) cmp_isNaN_int.A Try.f83 (.one (.leaf .bool)) (TT.lo false [.leaf (.int .i64)] x) H.empty).bind fun p => rdRes false p.2 (.one (.leaf .bool)) (Res.un (.one (.leaf .bool)) p.1)) = cmp_isNaN_intP x := by
  intro x
  rw [show TT.lo false [.leaf (.int .i64)] x = TT.un [.leaf (.int .i64)] (x) from rfl, cmp_isNaN_int.eq]
  rfl
noncomputable def cmp_isNaN_intP.e : Entry := mkP [.leaf (.int .i64)] (.one (.leaf .bool)) fun x => cmp_isNaN_intP x
theorem cmp_isNaN_intP.ok : EntryOK Try.prog 83 (cmp_isNaN_intP.e) := mkP_ok (cmp_isNaN_int.tbok) Try.mixed Try.func83 (by kernel_rfl) cmp_isNaN_intP.eq

/-! ### cmp.Compare[int]: function 63 -/
noncomputable def cmp_Compare_int.tb : Table := tab [(83, cmp_isNaN_intP.e)] [] Table.nil
theorem cmp_Compare_int.tbok : TabOK Try.prog (cmp_Compare_int.tb) := TabOK.tab (TabOK.nil Try.prog) (all_cons cmp_isNaN_intP.ok (all_nil _)) (all_nil _)
noncomputable def cmp_Compare_int (a0 : Int) (a1 : Int) (h : H) : Option ((Int) × H) :=
((cmp_isNaN_intP a0).bind fun r1 =>
((cmp_isNaN_intP a1).bind fun r2 =>
(bif r1 then (bif r2 then (some (0, h)) else (some ((-1), h))) else (bif r2 then (some (1, h)) else (bif (decide (a0 < a1)) then (some ((-1), h)) else (bif (decide (a1 < a0)) then (some (1, h)) else (some (0, h))))))))
def cmp_Compare_int.A : Ann := { lits := [], conds := [], loops := [], regs := [] }
theorem cmp_Compare_int.eq : ∀ (x : TT [.leaf (.int .i64), .leaf (.int .i64)]) (h : H), evalFn Try.prog (cmp_Compare_int.tb) cmp_Compare_int.A Try.f63 (.one (.leaf (.int .i64))) (TT.un [.leaf (.int .i64), .leaf (.int .i64)] x) h = cmp_Compare_int x.1 x.2 h := by
  intro x h
  kernel_rfl
noncomputable def cmp_Compare_int.e : Entry := mkX [.leaf (.int .i64), .leaf (.int .i64)] (.one (.leaf (.int .i64))) fun x h => cmp_Compare_int x.1 x.2 h
theorem cmp_Compare_int.ok : EntryOK Try.prog 63 (cmp_Compare_int.e) := mkX_ok (cmp_Compare_int.tbok) Try.mixed Try.func63 (by kernel_rfl) (cmp_Compare_int.eq)
noncomputable def cmp_Compare_intP (a0 : Int) (a1 : Int) : Option (Int) := (cmp_Compare_int a0 a1 H.empty).bind fun p => rdRes false p.2 (.one (.leaf (.int .i64))) (Res.un (.one (.leaf (.int .i64))) p.1)
theorem cmp_Compare_intP.eq : ∀ x : TT [.leaf (.int .i64), .leaf (.int .i64)], ((evalFn Try.prog (cmp_Compare_int.tb) cmp_Compare_int.A Try.f63 (.one (.leaf (.int .i64))) (TT.lo false [.leaf (.int .i64), .leaf (.int .i64)] x) H.empty).bind fun p => rdRes false p.2 (.one (.leaf (.int .i64))) (Res.un (.one (.leaf (.int .i64))) p.1)) = cmp_Compare_intP x.1 x.2 := by
  intro x
  rw [show TT.lo false [.leaf (.int .i64), .leaf (.int .i64)] x = TT.un [.leaf (.int .i64), .leaf (.int .i64)] (x.1, x.2) from rfl, cmp_Compare_int.eq]
  rfl
noncomputable def cmp_Compare_intP.e : Entry := mkP [.leaf (.int .i64), .leaf (.int .i64)] (.one (.leaf (.int .i64))) fun x => cmp_Compare_intP x.1 x.2
theorem cmp_Compare_intP.ok : EntryOK Try.prog 63 (cmp_Compare_intP.e) := mkP_ok (cmp_Compare_int.tbok) Try.mixed Try.func63 (by kernel_rfl) cmp_Compare_intP.eq

/-! ### spile/proportion.Divide$1: function 62 -/
noncomputable def proportion_Divide_1.tb : Table := tab [(63, cmp_Compare_intP.e)] [] Table.nil
theorem proportion_Divide_1.tbok : TabOK Try.prog (proportion_Divide_1.tb) := TabOK.tab (TabOK.nil Try.prog) (all_cons cmp_Compare_intP.ok (all_nil _)) (all_nil _)
noncomputable def proportion_Divide_1 (a0 : Int) (a1 : Int) (a2 : V) (h : H) : Option ((Int) × H) :=
(let h1 : H := H.reserve h 0
((rdT (.leaf .slice) h1 a2).bind fun x2 =>
(guardO (0 ≤ a1 ∧ a1 < ((x2.len : Nat) : Int)) ((rdT (.leaf (.int .i64)) h1 (V.add x2.a (Int.toNat a1 * 1))).bind fun x3 =>
((rdT (.leaf .slice) h1 a2).bind fun x4 =>
(guardO (0 ≤ a0 ∧ a0 < ((x4.len : Nat) : Int)) ((rdT (.leaf (.int .i64)) h1 (V.add x4.a (Int.toNat a0 * 1))).bind fun x5 =>
((cmp_Compare_intP x3 x5).bind fun r6 =>
(some (r6, h1))))))))))
def proportion_Divide_1.A : Ann := { lits := [], conds := [], loops := [], regs := [] }
theorem proportion_Divide_1.eq : ∀ (x : TT [.leaf (.int .i64), .leaf (.int .i64), .leaf .ptr]) (h : H), evalFn Try.prog (proportion_Divide_1.tb) proportion_Divide_1.A Try.f62 (.one (.leaf (.int .i64))) (TT.un [.leaf (.int .i64), .leaf (.int .i64), .leaf .ptr] x) h = proportion_Divide_1 x.1 x.2.1 x.2.2 h := by
  intro x h
  kernel_rfl
noncomputable def proportion_Divide_1.e : Entry := mkX [.leaf (.int .i64), .leaf (.int .i64), .leaf .ptr] (.one (.leaf (.int .i64))) fun x h => proportion_Divide_1 x.1 x.2.1 x.2.2 h
theorem proportion_Divide_1.ok : EntryOK Try.prog 62 (proportion_Divide_1.e) := mkX_ok (proportion_Divide_1.tbok) Try.mixed Try.func62 (by kernel_rfl) (proportion_Divide_1.eq)

/-! ### spile/proportion.Divide: function 28 -/
noncomputable def proportion_Divide.tb : Table := tab [(51, proportion_dividedP.e), (59, proportion_weighP.e)] [(62, proportion_Divide_1.e)] Table.nil
theorem proportion_Divide.tbok : TabOK Try.prog (proportion_Divide.tb) := TabOK.tab (TabOK.nil Try.prog) (all_cons proportion_dividedP.ok (all_cons proportion_weighP.ok (all_nil _))) (all_cons proportion_Divide_1.ok (all_nil _))
noncomputable def proportion_Divide.loop1 (h : H) (a0 : Int) (a1 : SV) (r1 : Int) : (Int × Int) × H → Option (Stp ((Int × Int) × H) (Flow (Int) (SV × Int) × H)) := fun ((y10, y11), h12) =>
(bif (decide (y11 < ((a1.len : Nat) : Int))) then (guardO (0 ≤ y11 ∧ y11 < ((a1.len : Nat) : Int)) ((rdT (.leaf (.int .i64)) h12 (V.add a1.a (Int.toNat y11 * 1))).bind fun x13 =>
(let h14 : H := H.reserve h12 0
((rdT (.leaf .slice) h14 (.hp (h.next + 3) 1 0)).bind fun x15 =>
((proportion_dividedP a0 x13 r1).bind fun (r16, r17, r18) =>
(guardO (0 ≤ y11 ∧ y11 < (((Int.toNat ((a1.len : Nat) : Int)) : Nat) : Int)) ((H.wrs h14 (.hp h.next (Int.toNat ((a1.len : Nat) : Int) * 1) (0 + (Int.toNat y11 * 1))) [.int .i64 r16]).bind fun h19 =>
(guardO (0 ≤ y11 ∧ y11 < ((x15.len : Nat) : Int)) ((H.wrs h19 (V.add x15.a (Int.toNat y11 * 1)) [.int .i64 r17]).bind fun h20 =>
(guardO (apartA (.hp (h.next + 3) 1 0 : V) (.hp h.next (Int.toNat ((a1.len : Nat) : Int) * 1) (0 + (Int.toNat y11 * 1)) : V) = true) (guardO (0 ≤ y11 ∧ y11 < (((Int.toNat ((a1.len : Nat) : Int)) : Nat) : Int)) ((H.wrs h20 (.hp (h.next + 2) (Int.toNat ((a1.len : Nat) : Int) * 1) (0 + (Int.toNat y11 * 1))) [.int .i64 y11]).bind fun h21 =>
(guardO (0 ≤ y11 ∧ y11 < (((Int.toNat ((a1.len : Nat) : Int)) : Nat) : Int)) ((rdT (.leaf (.int .i64)) h21 (.hp h.next (Int.toNat ((a1.len : Nat) : Int) * 1) (0 + (Int.toNat y11 * 1)))).bind fun x22 =>
(some (.more (((IntKind.wrap .i64 (y10 - x22)), (IntKind.wrap .i64 (y11 + 1))), h21))))))))))))))))) else (some (.done (.ex0 y10, h12))))
noncomputable def proportion_Divide.loop2 (h : H) (a1 : SV) (y26 : Int) : (Int) × H → Option (Stp ((Int) × H) (Flow (Unit) (SV × Int) × H)) := fun (y28, h29) =>
(bif (decide (y28 < y26)) then (guardO (0 ≤ y28 ∧ y28 < (((Int.toNat ((a1.len : Nat) : Int)) : Nat) : Int)) ((rdT (.leaf (.int .i64)) h29 (.hp (h.next + 2) (Int.toNat ((a1.len : Nat) : Int) * 1) (0 + (Int.toNat y28 * 1)))).bind fun x30 =>
(guardO (0 ≤ x30 ∧ x30 < (((Int.toNat ((a1.len : Nat) : Int)) : Nat) : Int)) ((rdT (.leaf (.int .i64)) h29 (.hp h.next (Int.toNat ((a1.len : Nat) : Int) * 1) (0 + (Int.toNat x30 * 1)))).bind fun x31 =>
(guardO (0 ≤ x30 ∧ x30 < (((Int.toNat ((a1.len : Nat) : Int)) : Nat) : Int)) ((H.wrs h29 (.hp h.next (Int.toNat ((a1.len : Nat) : Int) * 1) (0 + (Int.toNat x30 * 1))) [.int .i64 (IntKind.wrap .i64 (x31 + 1))]).bind fun h32 =>
(some (.more ((IntKind.wrap .i64 (y28 + 1)), h32))))))))) else (some (.done (.ex0 (), h29))))
noncomputable def proportion_Divide (a0 : Int) (a1 : SV) (h : H) : Option ((SV × Int) × H) :=
((rdRow true h [.int .i64] a1).bind fun s3 =>
((proportion_weighP a0 s3).bind fun (r1, r2) =>
(bif (!(decide (r2 = 0))) then (some ((⟨.nil, 0, 0, false⟩, r2), h)) else (let h4 : H := H.reserve h 4
(guardO (0 ≤ ((a1.len : Nat) : Int) ∧ ((a1.len : Nat) : Int) ≤ ((a1.len : Nat) : Int) ∧ ((a1.len : Nat) : Int) ≤ roomCells ∧ 8 ≤ 2 ^ 11 ∧ 1 = 1) (let h5 : H := H.put h4 h.next (.own (repeatCells [.int .i64 0] (Int.toNat ((a1.len : Nat) : Int))) 1)
(guardO (0 ≤ ((a1.len : Nat) : Int) ∧ ((a1.len : Nat) : Int) ≤ ((a1.len : Nat) : Int) ∧ ((a1.len : Nat) : Int) ≤ roomCells ∧ 8 ≤ 2 ^ 11 ∧ 1 = 1) (let h6 : H := H.put h5 (h.next + 1) (.own (repeatCells [.int .i64 0] (Int.toNat ((a1.len : Nat) : Int))) 1)
(guardO (0 ≤ ((a1.len : Nat) : Int) ∧ ((a1.len : Nat) : Int) ≤ ((a1.len : Nat) : Int) ∧ ((a1.len : Nat) : Int) ≤ roomCells ∧ 8 ≤ 2 ^ 11 ∧ 1 = 1) (let h7 : H := H.put h6 (h.next + 2) (.own (repeatCells [.int .i64 0] (Int.toNat ((a1.len : Nat) : Int))) 1)
(let h8 : H := H.put h7 (h.next + 3) (.own [.slice .nil 0 0 false] 1)
((H.wrs h8 (.hp (h.next + 3) 1 0) [.slice (.hp (h.next + 1) (Int.toNat ((a1.len : Nat) : Int) * 1) 0) (Int.toNat ((a1.len : Nat) : Int)) (Int.toNat ((a1.len : Nat) : Int)) true]).bind fun h9 =>
(guardO (apartA (.hp (h.next + 2) 0 0 : V) (.hp (h.next + 3) 1 0 : V) = true) ((iter FUEL (proportion_Divide.loop1 h a0 a1 r1) ((a0, 0), h9)).bind fun (fl24, h23) => match fl24 with
| .next _ => none
| .ret rr25 => (some (rr25, h23))
| .ex0 y26 =>
((slices_SortStableFunc_int_int proportion_Divide.tb ⟨.hp (h.next + 2) (Int.toNat ((a1.len : Nat) : Int) * 1) 0, (Int.toNat ((a1.len : Nat) : Int)), (Int.toNat ((a1.len : Nat) : Int)), true⟩ (.func 62 [.hp (h.next + 3) 1 0] : V) h23).bind fun (_, h27) =>
((iter FUEL (proportion_Divide.loop2 h a1 y26) (0, h27)).bind fun (fl34, h33) => match fl34 with
| .next _ => none
| .ret rr35 => (some (rr35, h33))
| .ex0 _ =>
(some ((⟨.hp h.next (Int.toNat ((a1.len : Nat) : Int) * 1) 0, (Int.toNat ((a1.len : Nat) : Int)), (Int.toNat ((a1.len : Nat) : Int)), true⟩, 0), h33))
| .ex1 _ => none))
| .ex1 _ => none))))))))))))))
def proportion_Divide.A : Ann := { lits := [], conds := [], loops := [(7, [11, 36], [.leaf (.int .i64), .leaf (.int .i64)], [11], [.leaf (.int .i64)], some 0, none), (15, [70], [.leaf (.int .i64)], [], [], some 2, none)], regs := [] }
noncomputable def proportion_Divide.tc : Table := tab [(61, slices_SortStableFunc_int_int.e (proportion_Divide.tb))] [] (proportion_Divide.tb)
theorem proportion_Divide.tcok : TabOK Try.prog (proportion_Divide.tc) := TabOK.tab (proportion_Divide.tbok) (all_cons (slices_SortStableFunc_int_int.ok _ (proportion_Divide.tbok)) (all_nil _)) (all_nil _)
theorem proportion_Divide.eq : ∀ (x : TT [.leaf (.int .i64), .leaf .slice]) (h : H), evalFn Try.prog (proportion_Divide.tc) proportion_Divide.A Try.f28 (.many [.leaf .slice, .leaf (.int .i64)]) (TT.un [.leaf (.int .i64), .leaf .slice] x) h = proportion_Divide x.1 x.2 h := by
  intro x h
  kernel_rfl
noncomputable def proportion_Divide.e : Entry := mkX [.leaf (.int .i64), .leaf .slice] (.many [.leaf .slice, .leaf (.int .i64)]) fun x h => proportion_Divide x.1 x.2 h
theorem proportion_Divide.ok : EntryOK Try.prog 28 (proportion_Divide.e) := mkX_ok (proportion_Divide.tcok) Try.mixed Try.func28 (by kernel_rfl) (proportion_Divide.eq)
noncomputable def proportion_DivideP (a0 : Int) (a1 : (List (Int))) : Option ((List (Int)) × Int) := (proportion_Divide a0 (rowSV false [.int .i64] a1) H.empty).bind fun p => rdRes false p.2 (.many [.leaf (.row [.int .i64]), .leaf (.int .i64)]) (Res.un (.many [.leaf .slice, .leaf (.int .i64)]) p.1)
theorem proportion_DivideP.eq : ∀ x : TT [.leaf (.int .i64), .leaf (.row [.int .i64])], ((evalFn Try.prog (proportion_Divide.tc) proportion_Divide.A Try.f28 (.many [.leaf .slice, .leaf (.int .i64)]) (TT.lo false [.leaf (.int .i64), .leaf (.row [.int .i64])] x) H.empty).bind fun p => rdRes false p.2 (.many [.leaf (.row [.int .i64]), .leaf (.int .i64)]) (Res.un (.many [.leaf .slice, .leaf (.int .i64)]) p.1)) = proportion_DivideP x.1 x.2 := by
  intro x
  rw [show TT.lo false [.leaf (.int .i64), .leaf (.row [.int .i64])] x = TT.un [.leaf (.int .i64), .leaf .slice] (x.1, (rowSV false [.int .i64] x.2)) from rfl, proportion_Divide.eq]
  rfl
noncomputable def proportion_DivideP.e : Entry := mkP [.leaf (.int .i64), .leaf (.row [.int .i64])] (.many [.leaf (.row [.int .i64]), .leaf (.int .i64)]) fun x => proportion_DivideP x.1 x.2
theorem proportion_DivideP.ok : EntryOK Try.prog 28 (proportion_DivideP.e) := mkP_ok (proportion_Divide.tcok) Try.mixed Try.func28 (by kernel_rfl) proportion_DivideP.eq

/-! ### spile/proportion.Draw: function 23 -/
noncomputable def proportion_Draw.tb : Table := tab [(24, slices_Clone_int_int.e), (28, proportion_DivideP.e), (59, proportion_weighP.e)] [] Table.nil
theorem proportion_Draw.tbok : TabOK Try.prog (proportion_Draw.tb) := TabOK.tab (TabOK.nil Try.prog) (all_cons slices_Clone_int_int.ok (all_cons proportion_DivideP.ok (all_cons proportion_weighP.ok (all_nil _)))) (all_nil _)
noncomputable def proportion_Draw.loop1 (r4 : List (Int)) (r7 : SV) : (Int) × H → Option (Stp ((Int) × H) (Flow (Unit) (SV × SV × Int) × H)) := fun (y9, h10) =>
(bif (decide (y9 < ((r4.length : Nat) : Int))) then (guardO (0 ≤ y9 ∧ y9 < ((r4.length : Nat) : Int)) ((rdT (.leaf (.int .i64)) h10 (V.add ((rowSV true [.int .i64] r4).a) (Int.toNat y9 * 1))).bind fun x11 =>
(guardO (0 ≤ y9 ∧ y9 < ((r7.len : Nat) : Int)) ((rdT (.leaf (.int .i64)) h10 (V.add r7.a (Int.toNat y9 * 1))).bind fun x12 =>
(guardO (0 ≤ y9 ∧ y9 < ((r7.len : Nat) : Int)) ((H.wrs h10 (V.add r7.a (Int.toNat y9 * 1)) [.int .i64 (IntKind.wrap .i64 (x12 - x11))]).bind fun h13 =>
(some (.more ((IntKind.wrap .i64 (y9 + 1)), h13))))))))) else (some (.done (.ex0 (), h10))))
noncomputable def proportion_Draw (a0 : SV) (a1 : Int) (h : H) : Option ((SV × SV × Int) × H) :=
((rdRow true h [.int .i64] a0).bind fun s3 =>
((proportion_weighP a1 s3).bind fun (r1, r2) =>
(bif (!(decide (r2 = 0))) then (some ((⟨.nil, 0, 0, false⟩, ⟨.nil, 0, 0, false⟩, r2), h)) else (bif (decide (r1 < a1)) then (some ((⟨.nil, 0, 0, false⟩, ⟨.nil, 0, 0, false⟩, 17), h)) else ((rdRow true h [.int .i64] a0).bind fun s6 =>
((proportion_DivideP a1 s6).bind fun (r4, r5) =>
((cloneX 1 8 a0 h).bind fun (r7, h8) =>
((iter FUEL (proportion_Draw.loop1 r4 r7) (0, h8)).bind fun (fl15, h14) => match fl15 with
| .next _ => none
| .ret rr16 => (some (rr16, h14))
| .ex0 _ =>
(some (((rowSV true [.int .i64] r4), r7, 0), h14))
| .ex1 _ => none))))))))
def proportion_Draw.A : Ann := { lits := [], conds := [], loops := [(9, [36], [.leaf (.int .i64)], [], [], some 0, none)], regs := [] }
theorem proportion_Draw.eq : ∀ (x : TT [.leaf .slice, .leaf (.int .i64)]) (h : H), evalFn Try.prog (proportion_Draw.tb) proportion_Draw.A Try.f23 (.many [.leaf .slice, .leaf .slice, .leaf (.int .i64)]) (TT.un [.leaf .slice, .leaf (.int .i64)] x) h = proportion_Draw x.1 x.2 h := by
  intro x h
  kernel_rfl
noncomputable def proportion_Draw.e : Entry := mkX [.leaf .slice, .leaf (.int .i64)] (.many [.leaf .slice, .leaf .slice, .leaf (.int .i64)]) fun x h => proportion_Draw x.1 x.2 h
theorem proportion_Draw.ok : EntryOK Try.prog 23 (proportion_Draw.e) := mkX_ok (proportion_Draw.tbok) Try.mixed Try.func23 (by kernel_rfl) (proportion_Draw.eq)
noncomputable def proportion_DrawP (a0 : (List (Int))) (a1 : Int) : Option ((List (Int)) × (List (Int)) × Int) := (proportion_Draw (rowSV false [.int .i64] a0) a1 H.empty).bind fun p => rdRes false p.2 (.many [.leaf (.row [.int .i64]), .leaf (.row [.int .i64]), .leaf (.int .i64)]) (Res.un (.many [.leaf .slice, .leaf .slice, .leaf (.int .i64)]) p.1)
theorem proportion_DrawP.eq : ∀ x : TT [.leaf (.row [.int .i64]), .leaf (.int .i64)], ((evalFn Try.prog (proportion_Draw.tb) proportion_Draw.A Try.f23 (.many [.leaf .slice, .leaf .slice, .leaf (.int .i64)]) (TT.lo false [.leaf (.row [.int .i64]), .leaf (.int .i64)] x) H.empty).bind fun p => rdRes false p.2 (.many [.leaf (.row [.int .i64]), .leaf (.row [.int .i64]), .leaf (.int .i64)]) (Res.un (.many [.leaf .slice, .leaf .slice, .leaf (.int .i64)]) p.1)) = proportion_DrawP x.1 x.2 := by
  intro x
  rw [show TT.lo false [.leaf (.row [.int .i64]), .leaf (.int .i64)] x = TT.un [.leaf .slice, .leaf (.int .i64)] ((rowSV false [.int .i64] x.1), x.2) from rfl, proportion_Draw.eq]
  rfl
noncomputable def proportion_DrawP.e : Entry := mkP [.leaf (.row [.int .i64]), .leaf (.int .i64)] (.many [.leaf (.row [.int .i64]), .leaf (.row [.int .i64]), .leaf (.int .i64)]) fun x => proportion_DrawP x.1 x.2
theorem proportion_DrawP.ok : EntryOK Try.prog 23 (proportion_DrawP.e) := mkP_ok (proportion_Draw.tbok) Try.mixed Try.func23 (by kernel_rfl) proportion_DrawP.eq
end Go.Proofs.Ytadlfinlbaogeaa
