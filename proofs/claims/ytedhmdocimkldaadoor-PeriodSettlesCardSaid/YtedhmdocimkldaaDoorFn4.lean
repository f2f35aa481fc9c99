/- The functions of the program as Lean functions, each with the equation by which the evaluator is that function. Written by a program of this session (evdrive.py). Conditions: none. -/
import Derived.Test.YtedhmdocimkldaaDoorProg
import Derived.Test.YtedhmdocimkldaaDoorEvSpec
import Derived.Test.YtedhmdocimkldaaDoorFn3
namespace Go.Proofs.YtedhmdocimkldaaDoor
open Go Go.Proofs.YtedhmdocimkldaaDoor.Ev
set_option maxRecDepth 100000
set_option linter.unusedVariables false
/-! ### slices.ContainsFunc[[]int,int]: function 80 -/
noncomputable def slices_ContainsFunc_int_int.tb (T : Table) : Table := tab [] [] T
theorem slices_ContainsFunc_int_int.tbok (T : Table) (hT : TabOK Tryd.prog T) : TabOK Tryd.prog (slices_ContainsFunc_int_int.tb T) := TabOK.tab (hT) (all_nil _) (all_nil _)
noncomputable def slices_ContainsFunc_int_int (T : Table) (a0 : SV) (a1 : V) (h : H) : Option ((Bool) × H) :=
((slices_IndexFunc_int_int (slices_ContainsFunc_int_int.tb T) a0 a1 h).bind fun (r1, h2) =>
(some ((decide ((0 : Int) ≤ r1)), h2)))
def slices_ContainsFunc_int_int.A : Ann := { lits := [], conds := [], loops := [], regs := [] }
noncomputable def slices_ContainsFunc_int_int.tc (T : Table) : Table := tab [(90, slices_IndexFunc_int_int.e (slices_ContainsFunc_int_int.tb T))] [] (slices_ContainsFunc_int_int.tb T)
theorem slices_ContainsFunc_int_int.tcok (T : Table) (hT : TabOK Tryd.prog T) : TabOK Tryd.prog (slices_ContainsFunc_int_int.tc T) := TabOK.tab (slices_ContainsFunc_int_int.tbok T hT) (all_cons (slices_IndexFunc_int_int.ok _ (slices_ContainsFunc_int_int.tbok T hT)) (all_nil _)) (all_nil _)
theorem slices_ContainsFunc_int_int.eq (T : Table) : ∀ (x : TT [.leaf .slice, .leaf .dyn]) (h : H), evalFn Tryd.prog (slices_ContainsFunc_int_int.tc T) slices_ContainsFunc_int_int.A Tryd.f80 (.one (.leaf .bool)) (TT.un [.leaf .slice, .leaf .dyn] x) h = slices_ContainsFunc_int_int T x.1 x.2 h := by
  intro x h
  kernel_rfl
noncomputable def slices_ContainsFunc_int_int.e (T : Table) : Entry := mkX [.leaf .slice, .leaf .dyn] (.one (.leaf .bool)) fun x h => slices_ContainsFunc_int_int T x.1 x.2 h
theorem slices_ContainsFunc_int_int.ok (T : Table) (hT : TabOK Tryd.prog T) : EntryOK Tryd.prog 80 (slices_ContainsFunc_int_int.e T) := mkX_ok (slices_ContainsFunc_int_int.tcok T hT) Tryd.mixed Tryd.func80 (by kernel_rfl) (slices_ContainsFunc_int_int.eq T)

/-! ### spile/statement.printable$1: function 81 -/
noncomputable def statement_printable_1.tb : Table := tab [(79, statement_withinP.e)] [] Table.nil
theorem statement_printable_1.tbok : TabOK Tryd.prog (statement_printable_1.tb) := TabOK.tab (TabOK.nil Tryd.prog) (all_cons statement_withinP.ok (all_nil _)) (all_nil _)
noncomputable def statement_printable_1 (a0 : Int) (h : H) : Option ((Bool) × H) :=
((statement_withinP a0 0 1125899906842624).bind fun r1 =>
(some ((!r1), h)))
def statement_printable_1.A : Ann := { lits := [], conds := [], loops := [], regs := [] }
theorem statement_printable_1.eq : ∀ (x : TT [.leaf (.int .i64)]) (h : H), evalFn Tryd.prog (statement_printable_1.tb) statement_printable_1.A Tryd.f81 (.one (.leaf .bool)) (TT.un [.leaf (.int .i64)] x) h = statement_printable_1 x h := by
  intro x h
  kernel_rfl
noncomputable def statement_printable_1.e : Entry := mkX [.leaf (.int .i64)] (.one (.leaf .bool)) fun x h => statement_printable_1 x h
theorem statement_printable_1.ok : EntryOK Tryd.prog 81 (statement_printable_1.e) := mkX_ok (statement_printable_1.tbok) Tryd.mixed Tryd.func81 (by kernel_rfl) (statement_printable_1.eq)
noncomputable def statement_printable_1P (a0 : Int) : Option (Bool) := (statement_printable_1 a0 H.empty).bind fun p => rdRes false p.2 (.one (.leaf .bool)) (Res.un (.one (.leaf .bool)) p.1)
theorem statement_printable_1P.eq : ∀ x : TT [.leaf (.int .i64)], ((evalFn Tryd.prog (statement_printable_1.tb) statement_printable_1.A Tryd.f81 (.one (.leaf .bool)) (TT.lo false [.leaf (.int .i64)] x) H.empty).bind fun p => rdRes false p.2 (.one (.leaf .bool)) (Res.un (.one (.leaf .bool)) p.1)) = statement_printable_1P x := by
  intro x
  rw [show TT.lo false [.leaf (.int .i64)] x = TT.un [.leaf (.int .i64)] (x) from rfl, statement_printable_1.eq]
  rfl
noncomputable def statement_printable_1P.e : Entry := mkP [.leaf (.int .i64)] (.one (.leaf .bool)) fun x => statement_printable_1P x
theorem statement_printable_1P.ok : EntryOK Tryd.prog 81 (statement_printable_1P.e) := mkP_ok (statement_printable_1.tbok) Tryd.mixed Tryd.func81 (by kernel_rfl) statement_printable_1P.eq

/-! ### spile/statement.printable: function 60 -/
noncomputable def statement_printable.tb : Table := tab [(63, statement_numbersP.e), (79, statement_withinP.e)] [(81, statement_printable_1P.e)] Table.nil
theorem statement_printable.tbok : TabOK Tryd.prog (statement_printable.tb) := TabOK.tab (TabOK.nil Tryd.prog) (all_cons statement_numbersP.ok (all_cons statement_withinP.ok (all_nil _))) (all_cons statement_printable_1P.ok (all_nil _))
noncomputable def statement_printable.loop1 (x6 : SV) : (SV × Int) × H → Option (Stp ((SV × Int) × H) (Flow (SV) (Int) × H)) := fun ((y7, y8), h9) =>
(bif (decide (y8 < ((x6.len : Nat) : Int))) then (guardO (0 ≤ y8 ∧ y8 < ((x6.len : Nat) : Int)) ((rdT (.agg [.int .i64, .int .i64, .int .i64, .int .i64, .int .i64, .int .i64, .int .i64, .int .i64]) h9 (V.add x6.a (Int.toNat y8 * 8))).bind fun (x10_0, x10_1, x10_2, x10_3, x10_4, x10_5, x10_6, x10_7) =>
(let h11 : H := H.new h9 [.int .i64 0, .int .i64 0, .int .i64 0, .int .i64 0, .int .i64 0, .int .i64 0, .int .i64 0, .int .i64 0] 8
((H.wrs h11 (.hp h9.next 8 0) [.int .i64 x10_0, .int .i64 x10_1, .int .i64 x10_2, .int .i64 x10_3, .int .i64 x10_4, .int .i64 x10_5, .int .i64 x10_6, .int .i64 x10_7]).bind fun h12 =>
((rdT (.agg [.int .i64, .int .i64, .int .i64, .int .i64, .int .i64, .int .i64, .int .i64, .int .i64]) h12 (.hp h9.next 8 0)).bind fun (x13_0, x13_1, x13_2, x13_3, x13_4, x13_5, x13_6, x13_7) =>
((statement_numbersP (x13_0, x13_1, x13_2, x13_3, x13_4, x13_5, x13_6, x13_7)).bind fun r14 =>
((cellsOf h12 (.slice ((rowSV true [.int .i64] r14).a) r14.length r14.length true : V) 1).bind fun (n17, cs17) =>
((appendS h12 none 1 8 y7 cs17 n17).bind fun (s17, h16) =>
((rdT (.leaf (.int .i64)) h16 (.hp h9.next 8 1)).bind fun x20 =>
((statement_withinP x20 1 9).bind fun r21 =>
(bif (!r21) then (some (.done (.ret 2, h16))) else (some (.more ((s17, (IntKind.wrap .i64 (y8 + 1))), h16)))))))))))))) else (some (.done (.ex0 y7, h9))))
noncomputable def statement_printable (a0 : (Int × Int × SV × Int)) (h : H) : Option ((Int) × H) :=
(match a0 with
| (a0_0, a0_1, a0_2, a0_3) =>
(let h1 : H := H.new h [.int .i64 a0_0, .int .i64 a0_1, .slice a0_2.a a0_2.len a0_2.cap a0_2.tail, .int .i64 a0_3] 4
((rdT (.leaf .slice) h1 (.hp h.next 4 2)).bind fun x2 =>
(bif (decide ((64 : Int) < ((x2.len : Nat) : Int))) then (some (8, h1)) else ((rdT (.leaf (.int .i64)) h1 (.hp h.next 4 0)).bind fun x3 =>
((rdT (.leaf (.int .i64)) h1 (.hp h.next 4 1)).bind fun x4 =>
((rdT (.leaf (.int .i64)) h1 (.hp h.next 4 3)).bind fun x5 =>
((rdT (.leaf .slice) h1 (.hp h.next 4 2)).bind fun x6 =>
((iter FUEL (statement_printable.loop1 x6) ((⟨.lp true ([.int .i64 x3, .int .i64 x4, .int .i64 x5]) 0, 3, 3, false⟩, 0), h1)).bind fun (fl23, h22) => match fl23 with
| .next _ => none
| .ret rr24 => (some (rr24, h22))
| .ex0 y25 =>
((slices_ContainsFunc_int_int statement_printable.tb y25 (.func 81 [] : V) h22).bind fun (r26, h27) =>
(bif r26 then (some (2, h27)) else (some (0, h27))))
| .ex1 _ => none)))))))))
def statement_printable.A : Ann := { lits := [], conds := [], loops := [(5, [3, 20], [.leaf .slice, .leaf (.int .i64)], [3], [.leaf .slice], some 0, none)], regs := [] }
noncomputable def statement_printable.tc : Table := tab [(80, slices_ContainsFunc_int_int.e (statement_printable.tb))] [] (statement_printable.tb)
theorem statement_printable.tcok : TabOK Tryd.prog (statement_printable.tc) := TabOK.tab (statement_printable.tbok) (all_cons (slices_ContainsFunc_int_int.ok _ (statement_printable.tbok)) (all_nil _)) (all_nil _)
theorem statement_printable.eq : ∀ (x : TT [.agg [.int .i64, .int .i64, .slice, .int .i64]]) (h : H), evalFn Tryd.prog (statement_printable.tc) statement_printable.A Tryd.f60 (.one (.leaf (.int .i64))) (TT.un [.agg [.int .i64, .int .i64, .slice, .int .i64]] x) h = statement_printable x h := by
  intro x h
  kernel_rfl
noncomputable def statement_printable.e : Entry := mkX [.agg [.int .i64, .int .i64, .slice, .int .i64]] (.one (.leaf (.int .i64))) fun x h => statement_printable x h
theorem statement_printable.ok : EntryOK Tryd.prog 60 (statement_printable.e) := mkX_ok (statement_printable.tcok) Tryd.mixed Tryd.func60 (by kernel_rfl) (statement_printable.eq)
noncomputable def statement_printableP (a0 : (Int × Int × (List (Int × Int × Int × Int × Int × Int × Int × Int)) × Int)) : Option (Int) := (statement_printable (a0.1, a0.2.1, rowSV false [.int .i64, .int .i64, .int .i64, .int .i64, .int .i64, .int .i64, .int .i64, .int .i64] a0.2.2.1, a0.2.2.2) H.empty).bind fun p => rdRes false p.2 (.one (.leaf (.int .i64))) (Res.un (.one (.leaf (.int .i64))) p.1)
theorem statement_printableP.eq : ∀ x : TT [.agg [.int .i64, .int .i64, .row [.int .i64, .int .i64, .int .i64, .int .i64, .int .i64, .int .i64, .int .i64, .int .i64], .int .i64]], ((evalFn Tryd.prog (statement_printable.tc) statement_printable.A Tryd.f60 (.one (.leaf (.int .i64))) (TT.lo false [.agg [.int .i64, .int .i64, .row [.int .i64, .int .i64, .int .i64, .int .i64, .int .i64, .int .i64, .int .i64, .int .i64], .int .i64]] x) H.empty).bind fun p => rdRes false p.2 (.one (.leaf (.int .i64))) (Res.un (.one (.leaf (.int .i64))) p.1)) = statement_printableP x := by
  intro x
  rw [show TT.lo false [.agg [.int .i64, .int .i64, .row [.int .i64, .int .i64, .int .i64, .int .i64, .int .i64, .int .i64, .int .i64, .int .i64], .int .i64]] x = TT.un [.agg [.int .i64, .int .i64, .slice, .int .i64]] ((x.1, x.2.1, rowSV false [.int .i64, .int .i64, .int .i64, .int .i64, .int .i64, .int .i64, .int .i64, .int .i64] x.2.2.1, x.2.2.2)) from rfl, statement_printable.eq]
  rfl
noncomputable def statement_printableP.e : Entry := mkP [.agg [.int .i64, .int .i64, .row [.int .i64, .int .i64, .int .i64, .int .i64, .int .i64, .int .i64, .int .i64, .int .i64], .int .i64]] (.one (.leaf (.int .i64))) fun x => statement_printableP x
theorem statement_printableP.ok : EntryOK Tryd.prog 60 (statement_printableP.e) := mkP_ok (statement_printable.tcok) Tryd.mixed Tryd.func60 (by kernel_rfl) statement_printableP.eq

/-! ### spile/spileref49.numbers: function 78 -/
noncomputable def spileref49_numbers.tb : Table := tab [] [] Table.nil
theorem spileref49_numbers.tbok : TabOK Tryd.prog (spileref49_numbers.tb) := TabOK.tab (TabOK.nil Tryd.prog) (all_nil _) (all_nil _)
noncomputable def spileref49_numbers (a0 : (Int × Int × Int × Int × Int × Int × Int × Int)) (h : H) : Option ((SV) × H) :=
(match a0 with
| (a0_0, a0_1, a0_2, a0_3, a0_4, a0_5, a0_6, a0_7) =>
(let h1 : H := H.new h [.int .i64 a0_0, .int .i64 a0_1, .int .i64 a0_2, .int .i64 a0_3, .int .i64 a0_4, .int .i64 a0_5, .int .i64 a0_6, .int .i64 a0_7] 8
((rdT (.leaf (.int .i64)) h1 (.hp h.next 8 0)).bind fun x2 =>
((rdT (.leaf (.int .i64)) h1 (.hp h.next 8 1)).bind fun x3 =>
((rdT (.leaf (.int .i64)) h1 (.hp h.next 8 2)).bind fun x4 =>
((rdT (.leaf (.int .i64)) h1 (.hp h.next 8 3)).bind fun x5 =>
((rdT (.leaf (.int .i64)) h1 (.hp h.next 8 4)).bind fun x6 =>
((rdT (.leaf (.int .i64)) h1 (.hp h.next 8 5)).bind fun x7 =>
((rdT (.leaf (.int .i64)) h1 (.hp h.next 8 6)).bind fun x8 =>
((rdT (.leaf (.int .i64)) h1 (.hp h.next 8 7)).bind fun x9 =>
(let h10 : H := H.new h1 [.int .i64 x2, .int .i64 x3, .int .i64 x4, .int .i64 x5, .int .i64 x6, .int .i64 x7, .int .i64 x8, .int .i64 x9] 1
(some (⟨.hp h1.next 8 0, 8, 8, false⟩, h10)))))))))))))
def spileref49_numbers.A : Ann := { lits := [24], conds := [], loops := [], regs := [] }
theorem spileref49_numbers.eq : ∀ (x : TT [.agg [.int .i64, .int .i64, .int .i64, .int .i64, .int .i64, .int .i64, .int .i64, .int .i64]]) (h : H), evalFn Tryd.prog (spileref49_numbers.tb) spileref49_numbers.A Tryd.f78 (.one (.leaf .slice)) (TT.un [.agg [.int .i64, .int .i64, .int .i64, .int .i64, .int .i64, .int .i64, .int .i64, .int .i64]] x) h = spileref49_numbers x h := by
  intro x h
  kernel_rfl
noncomputable def spileref49_numbers.e : Entry := mkX [.agg [.int .i64, .int .i64, .int .i64, .int .i64, .int .i64, .int .i64, .int .i64, .int .i64]] (.one (.leaf .slice)) fun x h => spileref49_numbers x h
theorem spileref49_numbers.ok : EntryOK Tryd.prog 78 (spileref49_numbers.e) := mkX_ok (spileref49_numbers.tbok) Tryd.mixed Tryd.func78 (by kernel_rfl) (spileref49_numbers.eq)
noncomputable def spileref49_numbersP (a0 : (Int × Int × Int × Int × Int × Int × Int × Int)) : Option ((List (Int))) := (spileref49_numbers a0 H.empty).bind fun p => rdRes false p.2 (.one (.leaf (.row [.int .i64]))) (Res.un (.one (.leaf .slice)) p.1)
theorem spileref49_numbersP.eq : ∀ x : TT [.agg [.int .i64, .int .i64, .int .i64, .int .i64, .int .i64, .int .i64, .int .i64, .int .i64]], ((evalFn Tryd.prog (spileref49_numbers.tb) spileref49_numbers.A Tryd.f78 (.one (.leaf .slice)) (TT.lo false [.agg [.int .i64, .int .i64, .int .i64, .int .i64, .int .i64, .int .i64, .int .i64, .int .i64]] x) H.empty).bind fun p => rdRes false p.2 (.one (.leaf (.row [.int .i64]))) (Res.un (.one (.leaf .slice)) p.1)) = spileref49_numbersP x := by
  intro x
  rw [show TT.lo false [.agg [.int .i64, .int .i64, .int .i64, .int .i64, .int .i64, .int .i64, .int .i64, .int .i64]] x = TT.un [.agg [.int .i64, .int .i64, .int .i64, .int .i64, .int .i64, .int .i64, .int .i64, .int .i64]] (x) from rfl, spileref49_numbers.eq]
  rfl
noncomputable def spileref49_numbersP.e : Entry := mkP [.agg [.int .i64, .int .i64, .int .i64, .int .i64, .int .i64, .int .i64, .int .i64, .int .i64]] (.one (.leaf (.row [.int .i64]))) fun x => spileref49_numbersP x
theorem spileref49_numbersP.ok : EntryOK Tryd.prog 78 (spileref49_numbersP.e) := mkP_ok (spileref49_numbers.tbok) Tryd.mixed Tryd.func78 (by kernel_rfl) spileref49_numbersP.eq

/-! ### spile/spileref49.fault: function 75 -/
noncomputable def spileref49_fault.tb : Table := tab [(43, spileref47_BetweenP.e), (78, spileref49_numbersP.e)] [] Table.nil
theorem spileref49_fault.tbok : TabOK Tryd.prog (spileref49_fault.tb) := TabOK.tab (TabOK.nil Tryd.prog) (all_cons spileref47_BetweenP.ok (all_cons spileref49_numbersP.ok (all_nil _))) (all_nil _)
noncomputable def spileref49_fault.loop1 (h : H) : (SV × Int) × H → Option (Stp ((SV × Int) × H) (Flow (SV) (Int) × H)) := fun ((y6, y7), h8) =>
((rdT (.leaf .slice) h8 (.hp h.next 4 2)).bind fun x9 =>
(bif (decide (y7 < ((x9.len : Nat) : Int))) then ((rdT (.leaf .slice) h8 (.hp h.next 4 2)).bind fun x10 =>
(guardO (0 ≤ y7 ∧ y7 < ((x10.len : Nat) : Int)) ((rdT (.agg [.int .i64, .int .i64, .int .i64, .int .i64, .int .i64, .int .i64, .int .i64, .int .i64]) h8 (V.add x10.a (Int.toNat y7 * 8))).bind fun (x11_0, x11_1, x11_2, x11_3, x11_4, x11_5, x11_6, x11_7) =>
((spileref49_numbersP (x11_0, x11_1, x11_2, x11_3, x11_4, x11_5, x11_6, x11_7)).bind fun r12 =>
((cellsOf h8 (.slice ((rowSV true [.int .i64] r12).a) r12.length r12.length true : V) 1).bind fun (n15, cs15) =>
((appendS h8 none 1 8 y6 cs15 n15).bind fun (s15, h14) =>
(some (.more ((s15, (IntKind.wrap .i64 (y7 + 1))), h14))))))))) else (some (.done (.ex0 y6, h8)))))
noncomputable def spileref49_fault.loop2 (y21 : SV) : (Int) × H → Option (Stp ((Int) × H) (Flow (Unit) (Int) × H)) := fun (y22, h23) =>
(bif (decide (y22 < ((y21.len : Nat) : Int))) then (guardO (0 ≤ y22 ∧ y22 < ((y21.len : Nat) : Int)) ((rdT (.leaf (.int .i64)) h23 (V.add y21.a (Int.toNat y22 * 1))).bind fun x24 =>
((spileref47_BetweenP x24 0 1125899906842624).bind fun r25 =>
(bif (!r25) then (some (.done (.ret 2, h23))) else (some (.more ((IntKind.wrap .i64 (y22 + 1)), h23))))))) else (some (.done (.ex0 (), h23))))
noncomputable def spileref49_fault.loop3 (h : H) : (Int) × H → Option (Stp ((Int) × H) (Flow (Unit) (Int) × H)) := fun (y29, h30) =>
((rdT (.leaf .slice) h30 (.hp h.next 4 2)).bind fun x31 =>
(bif (decide (y29 < ((x31.len : Nat) : Int))) then ((rdT (.leaf .slice) h30 (.hp h.next 4 2)).bind fun x32 =>
(guardO (0 ≤ y29 ∧ y29 < ((x32.len : Nat) : Int)) (guardO (V.nn ((V.add x32.a (Int.toNat y29 * 8)) : V) = true) (guardO (V.nn ((V.add (V.add x32.a (Int.toNat y29 * 8)) 0) : V) = true) ((rdT (.leaf (.int .i64)) h30 (V.add (V.add (V.add x32.a (Int.toNat y29 * 8)) 0) 1)).bind fun x33 =>
((spileref47_BetweenP x33 1 9).bind fun r34 =>
(bif (!r34) then (some (.done (.ret 2, h30))) else (some (.more ((IntKind.wrap .i64 (y29 + 1)), h30)))))))))) else (some (.done (.ex0 (), h30)))))
noncomputable def spileref49_fault (a0 : (Int × Int × SV × Int)) (h : H) : Option ((Int) × H) :=
(match a0 with
| (a0_0, a0_1, a0_2, a0_3) =>
(let h1 : H := H.new h [.int .i64 a0_0, .int .i64 a0_1, .slice a0_2.a a0_2.len a0_2.cap a0_2.tail, .int .i64 a0_3] 4
((rdT (.leaf .slice) h1 (.hp h.next 4 2)).bind fun x2 =>
(bif (decide ((64 : Int) < ((x2.len : Nat) : Int))) then (some (8, h1)) else ((rdT (.leaf (.int .i64)) h1 (.hp h.next 4 0)).bind fun x3 =>
((rdT (.leaf (.int .i64)) h1 (.hp h.next 4 1)).bind fun x4 =>
((rdT (.leaf (.int .i64)) h1 (.hp h.next 4 3)).bind fun x5 =>
((iter FUEL (spileref49_fault.loop1 h) ((⟨.lp true ([.int .i64 x3, .int .i64 x4, .int .i64 x5]) 0, 3, 3, false⟩, 0), h1)).bind fun (fl19, h18) => match fl19 with
| .next _ => none
| .ret rr20 => (some (rr20, h18))
| .ex0 y21 =>
((iter FUEL (spileref49_fault.loop2 y21) (0, h18)).bind fun (fl27, h26) => match fl27 with
| .next _ => none
| .ret rr28 => (some (rr28, h26))
| .ex0 _ =>
((iter FUEL (spileref49_fault.loop3 h) (0, h26)).bind fun (fl36, h35) => match fl36 with
| .next _ => none
| .ret rr37 => (some (rr37, h35))
| .ex0 _ =>
(some (0, h35))
| .ex1 _ => none)
| .ex1 _ => none)
| .ex1 _ => none))))))))
def spileref49_fault.A : Ann := { lits := [], conds := [], loops := [(5, [3, 4], [.leaf .slice, .leaf (.int .i64)], [3], [.leaf .slice], some 0, none), (9, [5], [.leaf (.int .i64)], [], [], some 2, none), (14, [6], [.leaf (.int .i64)], [], [], some 4, none)], regs := [] }
theorem spileref49_fault.eq : ∀ (x : TT [.agg [.int .i64, .int .i64, .slice, .int .i64]]) (h : H), evalFn Tryd.prog (spileref49_fault.tb) spileref49_fault.A Tryd.f75 (.one (.leaf (.int .i64))) (TT.un [.agg [.int .i64, .int .i64, .slice, .int .i64]] x) h = spileref49_fault x h := by
  intro x h
  kernel_rfl
noncomputable def spileref49_fault.e : Entry := mkX [.agg [.int .i64, .int .i64, .slice, .int .i64]] (.one (.leaf (.int .i64))) fun x h => spileref49_fault x h
theorem spileref49_fault.ok : EntryOK Tryd.prog 75 (spileref49_fault.e) := mkX_ok (spileref49_fault.tbok) Tryd.mixed Tryd.func75 (by kernel_rfl) (spileref49_fault.eq)
noncomputable def spileref49_faultP (a0 : (Int × Int × (List (Int × Int × Int × Int × Int × Int × Int × Int)) × Int)) : Option (Int) := (spileref49_fault (a0.1, a0.2.1, rowSV false [.int .i64, .int .i64, .int .i64, .int .i64, .int .i64, .int .i64, .int .i64, .int .i64] a0.2.2.1, a0.2.2.2) H.empty).bind fun p => rdRes false p.2 (.one (.leaf (.int .i64))) (Res.un (.one (.leaf (.int .i64))) p.1)
theorem spileref49_faultP.eq : ∀ x : TT [.agg [.int .i64, .int .i64, .row [.int .i64, .int .i64, .int .i64, .int .i64, .int .i64, .int .i64, .int .i64, .int .i64], .int .i64]], ((evalFn Tryd.prog (spileref49_fault.tb) spileref49_fault.A Tryd.f75 (.one (.leaf (.int .i64))) (TT.lo false [.agg [.int .i64, .int .i64, .row [.int .i64, .int .i64, .int .i64, .int .i64, .int .i64, .int .i64, .int .i64, .int .i64], .int .i64]] x) H.empty).bind fun p => rdRes false p.2 (.one (.leaf (.int .i64))) (Res.un (.one (.leaf (.int .i64))) p.1)) = spileref49_faultP x := by
  intro x
  rw [show TT.lo false [.agg [.int .i64, .int .i64, .row [.int .i64, .int .i64, .int .i64, .int .i64, .int .i64, .int .i64, .int .i64, .int .i64], .int .i64]] x = TT.un [.agg [.int .i64, .int .i64, .slice, .int .i64]] ((x.1, x.2.1, rowSV false [.int .i64, .int .i64, .int .i64, .int .i64, .int .i64, .int .i64, .int .i64, .int .i64] x.2.2.1, x.2.2.2)) from rfl, spileref49_fault.eq]
  rfl
noncomputable def spileref49_faultP.e : Entry := mkP [.agg [.int .i64, .int .i64, .row [.int .i64, .int .i64, .int .i64, .int .i64, .int .i64, .int .i64, .int .i64, .int .i64], .int .i64]] (.one (.leaf (.int .i64))) fun x => spileref49_faultP x
theorem spileref49_faultP.ok : EntryOK Tryd.prog 75 (spileref49_faultP.e) := mkP_ok (spileref49_fault.tbok) Tryd.mixed Tryd.func75 (by kernel_rfl) spileref49_faultP.eq
end Go.Proofs.YtedhmdocimkldaaDoor
