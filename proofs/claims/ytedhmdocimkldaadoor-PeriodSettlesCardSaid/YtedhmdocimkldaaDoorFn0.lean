/- The functions of the program as Lean functions, each with the equation by which the evaluator is that function. Written by a program of this session (evdrive.py). Conditions: none. -/
import Derived.Test.YtedhmdocimkldaaDoorProg
import Derived.Test.YtedhmdocimkldaaDoorEvSpec

namespace Go.Proofs.YtedhmdocimkldaaDoor
open Go Go.Proofs.YtedhmdocimkldaaDoor.Ev
set_option maxRecDepth 100000
set_option linter.unusedVariables false
theorem Tryd.mixed : Tryd.prog.follows .mixedOrders = true := by kernel_rfl
/-! ### spile/period.Check: function 12 -/
noncomputable def period_Check.tb : Table := tab [] [] Table.nil
theorem period_Check.tbok : TabOK Tryd.prog (period_Check.tb) := TabOK.tab (TabOK.nil Tryd.prog) (all_nil _) (all_nil _)
noncomputable def period_Check.loop1 (a0 : SV) : (Int) × H → Option (Stp ((Int) × H) (Flow (Unit) (Int × Int) × H)) := fun (y1, h2) =>
(bif (decide (y1 < ((a0.len : Nat) : Int))) then (guardO (0 ≤ y1 ∧ y1 < ((a0.len : Nat) : Int)) ((rdT (.agg [.int .i64, .int .i64, .int .i64, .bool]) h2 (V.add a0.a (Int.toNat y1 * 4))).bind fun (x3_0, x3_1, x3_2, x3_3) =>
(let h4 : H := H.new h2 [.int .i64 0, .int .i64 0, .int .i64 0, .bool false] 4
((H.wrs h4 (.hp h2.next 4 0) [.int .i64 x3_0, .int .i64 x3_1, .int .i64 x3_2, .bool x3_3]).bind fun h5 =>
((((rdT (.leaf (.int .i64)) h5 (.hp h2.next 4 0)).bind fun x6 =>
(bif !(decide (x6 < 0)) then ((rdT (.leaf (.int .i64)) h5 (.hp h2.next 4 0)).bind fun x7 =>
((rdT (.leaf (.int .i64)) h5 (.hp h2.next 4 1)).bind fun x8 =>
(bif !(decide (x8 < x7)) then ((rdT (.leaf (.int .i64)) h5 (.hp h2.next 4 1)).bind fun x9 =>
((rdT (.leaf (.int .i64)) h5 (.hp h2.next 4 2)).bind fun x10 =>
(bif !(decide (x10 < x9)) then ((rdT (.leaf (.int .i64)) h5 (.hp h2.next 4 2)).bind fun x11 =>
(some ((decide ((100000 : Int) < x11)), h5))) else (some (true, h5))))) else (some (true, h5))))) else (some (true, h5))))).bind fun (y12, h13) =>
(bif y12 then (some (.done (.ret (y1, 2), h13))) else (((let h14 : H := H.reserve h13 0
(bif (decide ((0 : Int) < y1)) then ((rdT (.leaf (.int .i64)) h14 (.hp h2.next 4 0)).bind fun x15 =>
(guardO (0 ≤ (IntKind.wrap .i64 (y1 - 1)) ∧ (IntKind.wrap .i64 (y1 - 1)) < ((a0.len : Nat) : Int)) (guardO (V.nn ((V.add a0.a (Int.toNat (IntKind.wrap .i64 (y1 - 1)) * 4)) : V) = true) ((rdT (.leaf (.int .i64)) h14 (V.add (V.add a0.a (Int.toNat (IntKind.wrap .i64 (y1 - 1)) * 4)) 1)).bind fun x16 =>
(some ((!(decide (x15 = (IntKind.wrap .i64 (x16 + 1))))), h14)))))) else (some (false, h14))))).bind fun (y17, h18) =>
(bif y17 then (some (.done (.ret (y1, 5), h18))) else (((bif (decide ((0 : Int) < y1)) then ((rdT (.leaf .bool) h18 (.hp h2.next 4 3)).bind fun x19 =>
(bif x19 then (guardO (0 ≤ (IntKind.wrap .i64 (y1 - 1)) ∧ (IntKind.wrap .i64 (y1 - 1)) < ((a0.len : Nat) : Int)) (guardO (V.nn ((V.add a0.a (Int.toNat (IntKind.wrap .i64 (y1 - 1)) * 4)) : V) = true) ((rdT (.leaf .bool) h18 (V.add (V.add a0.a (Int.toNat (IntKind.wrap .i64 (y1 - 1)) * 4)) 3)).bind fun x20 =>
(some ((!x20), h18))))) else (some (false, h18)))) else (some (false, h18)))).bind fun (y21, h22) =>
(bif y21 then (some (.done (.ret (y1, 11), h22))) else (some (.more ((IntKind.wrap .i64 (y1 + 1)), h22))))))))))))) else (some (.done (.ex0 (), h2))))
noncomputable def period_Check (a0 : SV) (h : H) : Option ((Int × Int) × H) :=
(bif (decide ((64 : Int) < ((a0.len : Nat) : Int))) then (some (((-1), 8), h)) else ((iter FUEL (period_Check.loop1 a0) (0, h)).bind fun (fl24, h23) => match fl24 with
| .next _ => none
| .ret rr25 => (some (rr25, h23))
| .ex0 _ =>
(some (((-1), 0), h23))
| .ex1 _ => none))
def period_Check.A : Ann := { lits := [], conds := [], loops := [(4, [11], [.leaf (.int .i64)], [], [], some 0, none)], regs := [(6, [16], [.leaf .bool]), (8, [40], [.leaf .bool]), (10, [56], [.leaf .bool])] }
theorem period_Check.eq : ∀ (x : TT [.leaf .slice]) (h : H), evalFn Tryd.prog (period_Check.tb) period_Check.A Tryd.f12 (.many [.leaf (.int .i64), .leaf (.int .i64)]) (TT.un [.leaf .slice] x) h = period_Check x h := by
  intro x h
  kernel_rfl
noncomputable def period_Check.e : Entry := mkX [.leaf .slice] (.many [.leaf (.int .i64), .leaf (.int .i64)]) fun x h => period_Check x h
theorem period_Check.ok : EntryOK Tryd.prog 12 (period_Check.e) := mkX_ok (period_Check.tbok) Tryd.mixed Tryd.func12 (by kernel_rfl) (period_Check.eq)
noncomputable def period_CheckP (a0 : (List (Int × Int × Int × Bool))) : Option (Int × Int) := (period_Check (rowSV false [.int .i64, .int .i64, .int .i64, .bool] a0) H.empty).bind fun p => rdRes false p.2 (.many [.leaf (.int .i64), .leaf (.int .i64)]) (Res.un (.many [.leaf (.int .i64), .leaf (.int .i64)]) p.1)
theorem period_CheckP.eq : ∀ x : TT [.leaf (.row [.int .i64, .int .i64, .int .i64, .bool])], ((evalFn Tryd.prog (period_Check.tb) period_Check.A Tryd.f12 (.many [.leaf (.int .i64), .leaf (.int .i64)]) (TT.lo false [.leaf (.row [.int .i64, .int .i64, .int .i64, .bool])] x) H.empty).bind fun p => rdRes false p.2 (.many [.leaf (.int .i64), .leaf (.int .i64)]) (Res.un (.many [.leaf (.int .i64), .leaf (.int .i64)]) p.1)) = period_CheckP x := by
  intro x
  rw [show TT.lo false [.leaf (.row [.int .i64, .int .i64, .int .i64, .bool])] x = TT.un [.leaf .slice] ((rowSV false [.int .i64, .int .i64, .int .i64, .bool] x)) from rfl, period_Check.eq]
  rfl
noncomputable def period_CheckP.e : Entry := mkP [.leaf (.row [.int .i64, .int .i64, .int .i64, .bool])] (.many [.leaf (.int .i64), .leaf (.int .i64)]) fun x => period_CheckP x
theorem period_CheckP.ok : EntryOK Tryd.prog 12 (period_CheckP.e) := mkP_ok (period_Check.tbok) Tryd.mixed Tryd.func12 (by kernel_rfl) period_CheckP.eq

/-! ### slices.Clone[[]spile/api.Period,spile/api.Period]: function 13 -/
noncomputable def slices_Clone_api_Period_api_Period.tb : Table := tab [] [] Table.nil
theorem slices_Clone_api_Period_api_Period.tbok : TabOK Tryd.prog (slices_Clone_api_Period_api_Period.tb) := TabOK.tab (TabOK.nil Tryd.prog) (all_nil _) (all_nil _)
noncomputable def slices_Clone_api_Period_api_Period (a0 : SV) (h : H) : Option ((SV) × H) :=
(bif !(V.mayNil (a0.a : V)) then (bif (!(V.nn (a0.a : V))) then (some (⟨.nil, 0, 0, false⟩, h)) else ((cellsOf h (.slice a0.a a0.len a0.cap a0.tail : V) 4).bind fun (n3, cs3) =>
((appendS h none 4 32 (⟨.lp true ([]) 0, 0, 0, false⟩) cs3 n3).bind fun (s3, h2) =>
(some (s3, h2))))) else none)
def slices_Clone_api_Period_api_Period.A : Ann := { lits := [], conds := [], loops := [], regs := [] }
theorem slices_Clone_api_Period_api_Period.eq : ∀ (x : TT [.leaf .slice]) (h : H), evalFn Tryd.prog (slices_Clone_api_Period_api_Period.tb) slices_Clone_api_Period_api_Period.A Tryd.f13 (.one (.leaf .slice)) (TT.un [.leaf .slice] x) h = slices_Clone_api_Period_api_Period x h := by
  intro x h
  kernel_rfl
noncomputable def slices_Clone_api_Period_api_Period.e : Entry := mkX [.leaf .slice] (.one (.leaf .slice)) (cloneX 4 32)
theorem slices_Clone_api_Period_api_Period.ok : EntryOK Tryd.prog 13 slices_Clone_api_Period_api_Period.e := cloneX_ok (g := slices_Clone_api_Period_api_Period) (mkX_ok (slices_Clone_api_Period_api_Period.tbok) Tryd.mixed Tryd.func13 (by kernel_rfl) (slices_Clone_api_Period_api_Period.eq)) (fun s h => by kernel_rfl)
noncomputable def slices_Clone_api_Period_api_PeriodP.e : Entry := mkP [.leaf (.row [.int .i64, .int .i64, .int .i64, .bool])] (.one (.leaf (.row [.int .i64, .int .i64, .int .i64, .bool]))) (cloneP 32)
theorem slices_Clone_api_Period_api_PeriodP.ok : EntryOK Tryd.prog 13 slices_Clone_api_Period_api_PeriodP.e := cloneP_ok slices_Clone_api_Period_api_Period.ok rfl (by omega) rfl

/-! ### slices.IndexFunc[[]spile/api.Period,spile/api.Period]: function 34 -/
noncomputable def slices_IndexFunc_api_Period_api_Period.tb (T : Table) : Table := tab [] [] T
theorem slices_IndexFunc_api_Period_api_Period.tbok (T : Table) (hT : TabOK Tryd.prog T) : TabOK Tryd.prog (slices_IndexFunc_api_Period_api_Period.tb T) := TabOK.tab (hT) (all_nil _) (all_nil _)
noncomputable def slices_IndexFunc_api_Period_api_Period.loop1 (T : Table) (a0 : SV) (a1 : V) : (Int) × H → Option (Stp ((Int) × H) (Flow (Unit) (Int) × H)) := fun (y1, h2) =>
(bif (decide (y1 < ((a0.len : Nat) : Int))) then (guardO (0 ≤ y1 ∧ y1 < ((a0.len : Nat) : Int)) ((rdT (.agg [.int .i64, .int .i64, .int .i64, .bool]) h2 (V.add a0.a (Int.toNat y1 * 4))).bind fun (x3_0, x3_1, x3_2, x3_3) =>
(callV T.dy a1 [.agg [.int .i64 x3_0, .int .i64 x3_1, .int .i64 x3_2, .bool x3_3]] h2 fun v4 h5 =>
(Res.pack (.one (.leaf .bool)) v4).bind fun r6 =>
(bif r6 then (some (.done (.ret y1, h5))) else (some (.more ((IntKind.wrap .i64 (y1 + 1)), h5))))))) else (some (.done (.ex0 (), h2))))
noncomputable def slices_IndexFunc_api_Period_api_Period (T : Table) (a0 : SV) (a1 : V) (h : H) : Option ((Int) × H) :=
((iter FUEL (slices_IndexFunc_api_Period_api_Period.loop1 T a0 a1) (0, h)).bind fun (fl8, h7) => match fl8 with
| .next _ => none
| .ret rr9 => (some (rr9, h7))
| .ex0 _ =>
(some ((-1), h7))
| .ex1 _ => none)
def slices_IndexFunc_api_Period_api_Period.A : Ann := { lits := [], conds := [], loops := [(2, [8], [.leaf (.int .i64)], [], [], some 0, none)], regs := [] }
theorem slices_IndexFunc_api_Period_api_Period.eq (T : Table) : ∀ (x : TT [.leaf .slice, .leaf .dyn]) (h : H), evalFn Tryd.prog (slices_IndexFunc_api_Period_api_Period.tb T) slices_IndexFunc_api_Period_api_Period.A Tryd.f34 (.one (.leaf (.int .i64))) (TT.un [.leaf .slice, .leaf .dyn] x) h = slices_IndexFunc_api_Period_api_Period T x.1 x.2 h := by
  intro x h
  kernel_rfl
noncomputable def slices_IndexFunc_api_Period_api_Period.e (T : Table) : Entry := mkX [.leaf .slice, .leaf .dyn] (.one (.leaf (.int .i64))) fun x h => slices_IndexFunc_api_Period_api_Period T x.1 x.2 h
theorem slices_IndexFunc_api_Period_api_Period.ok (T : Table) (hT : TabOK Tryd.prog T) : EntryOK Tryd.prog 34 (slices_IndexFunc_api_Period_api_Period.e T) := mkX_ok (slices_IndexFunc_api_Period_api_Period.tbok T hT) Tryd.mixed Tryd.func34 (by kernel_rfl) (slices_IndexFunc_api_Period_api_Period.eq T)

/-! ### spile/period.right: function 40 -/
noncomputable def period_right.tb : Table := tab [(12, period_CheckP.e)] [] Table.nil
theorem period_right.tbok : TabOK Tryd.prog (period_right.tb) := TabOK.tab (TabOK.nil Tryd.prog) (all_cons period_CheckP.ok (all_nil _)) (all_nil _)
noncomputable def period_right (a0 : SV) (h : H) : Option ((Bool) × H) :=
((rdRow true h [.int .i64, .int .i64, .int .i64, .bool] a0).bind fun s3 =>
((period_CheckP s3).bind fun (r1, r2) =>
(some ((decide (r2 = 0)), h))))
def period_right.A : Ann := { lits := [], conds := [], loops := [], regs := [] }
theorem period_right.eq : ∀ (x : TT [.leaf .slice]) (h : H), evalFn Tryd.prog (period_right.tb) period_right.A Tryd.f40 (.one (.leaf .bool)) (TT.un [.leaf .slice] x) h = period_right x h := by
  intro x h
  kernel_rfl
noncomputable def period_right.e : Entry := mkX [.leaf .slice] (.one (.leaf .bool)) fun x h => period_right x h
theorem period_right.ok : EntryOK Tryd.prog 40 (period_right.e) := mkX_ok (period_right.tbok) Tryd.mixed Tryd.func40 (by kernel_rfl) (period_right.eq)
noncomputable def period_rightP (a0 : (List (Int × Int × Int × Bool))) : Option (Bool) := (period_right (rowSV false [.int .i64, .int .i64, .int .i64, .bool] a0) H.empty).bind fun p => rdRes false p.2 (.one (.leaf .bool)) (Res.un (.one (.leaf .bool)) p.1)
theorem period_rightP.eq : ∀ x : TT [.leaf (.row [.int .i64, .int .i64, .int .i64, .bool])], ((evalFn Tryd.prog (period_right.tb) period_right.A Tryd.f40 (.one (.leaf .bool)) (TT.lo false [.leaf (.row [.int .i64, .int .i64, .int .i64, .bool])] x) H.empty).bind fun p => rdRes false p.2 (.one (.leaf .bool)) (Res.un (.one (.leaf .bool)) p.1)) = period_rightP x := by
  intro x
  rw [show TT.lo false [.leaf (.row [.int .i64, .int .i64, .int .i64, .bool])] x = TT.un [.leaf .slice] ((rowSV false [.int .i64, .int .i64, .int .i64, .bool] x)) from rfl, period_right.eq]
  rfl
noncomputable def period_rightP.e : Entry := mkP [.leaf (.row [.int .i64, .int .i64, .int .i64, .bool])] (.one (.leaf .bool)) fun x => period_rightP x
theorem period_rightP.ok : EntryOK Tryd.prog 40 (period_rightP.e) := mkP_ok (period_right.tbok) Tryd.mixed Tryd.func40 (by kernel_rfl) period_rightP.eq

/-! ### spile/period.within: function 42 -/
noncomputable def period_within.tb : Table := tab [] [] Table.nil
theorem period_within.tbok : TabOK Tryd.prog (period_within.tb) := TabOK.tab (TabOK.nil Tryd.prog) (all_nil _) (all_nil _)
noncomputable def period_within (a0 : Int) (a1 : Int) (a2 : Int) (h : H) : Option ((Bool) × H) :=
(((bif (decide (a1 ≤ a0)) then (some ((decide (a0 ≤ a2)), h)) else (some (false, h)))).bind fun (y1, h2) =>
(some (y1, h2)))
def period_within.A : Ann := { lits := [], conds := [], loops := [], regs := [(1, [6], [.leaf .bool])] }
theorem period_within.eq : ∀ (x : TT [.leaf (.int .i64), .leaf (.int .i64), .leaf (.int .i64)]) (h : H), evalFn Tryd.prog (period_within.tb) period_within.A Tryd.f42 (.one (.leaf .bool)) (TT.un [.leaf (.int .i64), .leaf (.int .i64), .leaf (.int .i64)] x) h = period_within x.1 x.2.1 x.2.2 h := by
  intro x h
  kernel_rfl
noncomputable def period_within.e : Entry := mkX [.leaf (.int .i64), .leaf (.int .i64), .leaf (.int .i64)] (.one (.leaf .bool)) fun x h => period_within x.1 x.2.1 x.2.2 h
theorem period_within.ok : EntryOK Tryd.prog 42 (period_within.e) := mkX_ok (period_within.tbok) Tryd.mixed Tryd.func42 (by kernel_rfl) (period_within.eq)
noncomputable def period_withinP (a0 : Int) (a1 : Int) (a2 : Int) : Option (Bool) := (period_within a0 a1 a2 H.empty).bind fun p => rdRes false p.2 (.one (.leaf .bool)) (Res.un (.one (.leaf .bool)) p.1)
theorem period_withinP.eq : ∀ x : TT [.leaf (.int .i64), .leaf (.int .i64), .leaf (.int .i64)], ((evalFn Tryd.prog (period_within.tb) period_within.A Tryd.f42 (.one (.leaf .bool)) (TT.lo false [.leaf (.int .i64), .leaf (.int .i64), .leaf (.int .i64)] x) H.empty).bind fun p => rdRes false p.2 (.one (.leaf .bool)) (Res.un (.one (.leaf .bool)) p.1)) = period_withinP x.1 x.2.1 x.2.2 := by
  intro x
  rw [show TT.lo false [.leaf (.int .i64), .leaf (.int .i64), .leaf (.int .i64)] x = TT.un [.leaf (.int .i64), .leaf (.int .i64), .leaf (.int .i64)] (x.1, x.2.1, x.2.2) from rfl, period_within.eq]
  rfl
noncomputable def period_withinP.e : Entry := mkP [.leaf (.int .i64), .leaf (.int .i64), .leaf (.int .i64)] (.one (.leaf .bool)) fun x => period_withinP x.1 x.2.1 x.2.2
theorem period_withinP.ok : EntryOK Tryd.prog 42 (period_withinP.e) := mkP_ok (period_within.tbok) Tryd.mixed Tryd.func42 (by kernel_rfl) period_withinP.eq

/-! ### spile/period.Of$1: function 41 -/
noncomputable def period_Of_1.tb : Table := tab [(42, period_withinP.e)] [] Table.nil
theorem period_Of_1.tbok : TabOK Tryd.prog (period_Of_1.tb) := TabOK.tab (TabOK.nil Tryd.prog) (all_cons period_withinP.ok (all_nil _)) (all_nil _)
noncomputable def period_Of_1 (a0 : (Int × Int × Int × Bool)) (a1 : V) (h : H) : Option ((Bool) × H) :=
(match a0 with
| (a0_0, a0_1, a0_2, a0_3) =>
(let h1 : H := H.new h [.int .i64 a0_0, .int .i64 a0_1, .int .i64 a0_2, .bool a0_3] 4
((rdT (.leaf (.int .i64)) h1 a1).bind fun x2 =>
((rdT (.leaf (.int .i64)) h1 (.hp h.next 4 0)).bind fun x3 =>
((rdT (.leaf (.int .i64)) h1 (.hp h.next 4 1)).bind fun x4 =>
((period_withinP x2 x3 x4).bind fun r5 =>
(some (r5, h1))))))))
def period_Of_1.A : Ann := { lits := [], conds := [], loops := [], regs := [] }
theorem period_Of_1.eq : ∀ (x : TT [.agg [.int .i64, .int .i64, .int .i64, .bool], .leaf .ptr]) (h : H), evalFn Tryd.prog (period_Of_1.tb) period_Of_1.A Tryd.f41 (.one (.leaf .bool)) (TT.un [.agg [.int .i64, .int .i64, .int .i64, .bool], .leaf .ptr] x) h = period_Of_1 x.1 x.2 h := by
  intro x h
  kernel_rfl
noncomputable def period_Of_1.e : Entry := mkX [.agg [.int .i64, .int .i64, .int .i64, .bool], .leaf .ptr] (.one (.leaf .bool)) fun x h => period_Of_1 x.1 x.2 h
theorem period_Of_1.ok : EntryOK Tryd.prog 41 (period_Of_1.e) := mkX_ok (period_Of_1.tbok) Tryd.mixed Tryd.func41 (by kernel_rfl) (period_Of_1.eq)

/-! ### spile/period.Of: function 15 -/
noncomputable def period_Of.tb : Table := tab [(40, period_rightP.e)] [(41, period_Of_1.e)] Table.nil
theorem period_Of.tbok : TabOK Tryd.prog (period_Of.tb) := TabOK.tab (TabOK.nil Tryd.prog) (all_cons period_rightP.ok (all_nil _)) (all_cons period_Of_1.ok (all_nil _))
noncomputable def period_Of (a0 : SV) (a1 : Int) (h : H) : Option ((Int × Int) × H) :=
(let h1 : H := H.new h [.int .i64 a1] 1
((rdRow true h1 [.int .i64, .int .i64, .int .i64, .bool] a0).bind fun s3 =>
((period_rightP s3).bind fun r2 =>
(bif (!r2) then (some (((-1), 1), h1)) else ((slices_IndexFunc_api_Period_api_Period period_Of.tb a0 (.func 41 [.hp h.next 1 0] : V) h1).bind fun (r4, h5) =>
(bif (decide (r4 < 0)) then (some (((-1), 7), h5)) else (some ((r4, 0), h5))))))))
def period_Of.A : Ann := { lits := [], conds := [], loops := [], regs := [] }
noncomputable def period_Of.tc : Table := tab [(34, slices_IndexFunc_api_Period_api_Period.e (period_Of.tb))] [] (period_Of.tb)
theorem period_Of.tcok : TabOK Tryd.prog (period_Of.tc) := TabOK.tab (period_Of.tbok) (all_cons (slices_IndexFunc_api_Period_api_Period.ok _ (period_Of.tbok)) (all_nil _)) (all_nil _)
theorem period_Of.eq : ∀ (x : TT [.leaf .slice, .leaf (.int .i64)]) (h : H), evalFn Tryd.prog (period_Of.tc) period_Of.A Tryd.f15 (.many [.leaf (.int .i64), .leaf (.int .i64)]) (TT.un [.leaf .slice, .leaf (.int .i64)] x) h = period_Of x.1 x.2 h := by
  intro x h
  kernel_rfl
noncomputable def period_Of.e : Entry := mkX [.leaf .slice, .leaf (.int .i64)] (.many [.leaf (.int .i64), .leaf (.int .i64)]) fun x h => period_Of x.1 x.2 h
theorem period_Of.ok : EntryOK Tryd.prog 15 (period_Of.e) := mkX_ok (period_Of.tcok) Tryd.mixed Tryd.func15 (by kernel_rfl) (period_Of.eq)
noncomputable def period_OfP (a0 : (List (Int × Int × Int × Bool))) (a1 : Int) : Option (Int × Int) := (period_Of (rowSV false [.int .i64, .int .i64, .int .i64, .bool] a0) a1 H.empty).bind fun p => rdRes false p.2 (.many [.leaf (.int .i64), .leaf (.int .i64)]) (Res.un (.many [.leaf (.int .i64), .leaf (.int .i64)]) p.1)
theorem period_OfP.eq : ∀ x : TT [.leaf (.row [.int .i64, .int .i64, .int .i64, .bool]), .leaf (.int .i64)], ((evalFn Tryd.prog (period_Of.tc) period_Of.A Tryd.f15 (.many [.leaf (.int .i64), .leaf (.int .i64)]) (TT.lo false [.leaf (.row [.int .i64, .int .i64, .int .i64, .bool]), .leaf (.int .i64)] x) H.empty).bind fun p => rdRes false p.2 (.many [.leaf (.int .i64), .leaf (.int .i64)]) (Res.un (.many [.leaf (.int .i64), .leaf (.int .i64)]) p.1)) = period_OfP x.1 x.2 := by
  intro x
  rw [show TT.lo false [.leaf (.row [.int .i64, .int .i64, .int .i64, .bool]), .leaf (.int .i64)] x = TT.un [.leaf .slice, .leaf (.int .i64)] ((rowSV false [.int .i64, .int .i64, .int .i64, .bool] x.1), x.2) from rfl, period_Of.eq]
  rfl
noncomputable def period_OfP.e : Entry := mkP [.leaf (.row [.int .i64, .int .i64, .int .i64, .bool]), .leaf (.int .i64)] (.many [.leaf (.int .i64), .leaf (.int .i64)]) fun x => period_OfP x.1 x.2
theorem period_OfP.ok : EntryOK Tryd.prog 15 (period_OfP.e) := mkP_ok (period_Of.tcok) Tryd.mixed Tryd.func15 (by kernel_rfl) period_OfP.eq

/-! ### spile/period.open$1: function 55 -/
noncomputable def period_open_1.tb : Table := tab [] [] Table.nil
theorem period_open_1.tbok : TabOK Tryd.prog (period_open_1.tb) := TabOK.tab (TabOK.nil Tryd.prog) (all_nil _) (all_nil _)
noncomputable def period_open_1 (a0 : (Int × Int × Int × Bool)) (h : H) : Option ((Bool) × H) :=
(match a0 with
| (a0_0, a0_1, a0_2, a0_3) =>
(let h1 : H := H.new h [.int .i64 a0_0, .int .i64 a0_1, .int .i64 a0_2, .bool a0_3] 4
((rdT (.leaf .bool) h1 (.hp h.next 4 3)).bind fun x2 =>
(some ((!x2), h1)))))
def period_open_1.A : Ann := { lits := [], conds := [], loops := [], regs := [] }
theorem period_open_1.eq : ∀ (x : TT [.agg [.int .i64, .int .i64, .int .i64, .bool]]) (h : H), evalFn Tryd.prog (period_open_1.tb) period_open_1.A Tryd.f55 (.one (.leaf .bool)) (TT.un [.agg [.int .i64, .int .i64, .int .i64, .bool]] x) h = period_open_1 x h := by
  intro x h
  kernel_rfl
noncomputable def period_open_1.e : Entry := mkX [.agg [.int .i64, .int .i64, .int .i64, .bool]] (.one (.leaf .bool)) fun x h => period_open_1 x h
theorem period_open_1.ok : EntryOK Tryd.prog 55 (period_open_1.e) := mkX_ok (period_open_1.tbok) Tryd.mixed Tryd.func55 (by kernel_rfl) (period_open_1.eq)
noncomputable def period_open_1P (a0 : (Int × Int × Int × Bool)) : Option (Bool) := (period_open_1 a0 H.empty).bind fun p => rdRes false p.2 (.one (.leaf .bool)) (Res.un (.one (.leaf .bool)) p.1)
theorem period_open_1P.eq : ∀ x : TT [.agg [.int .i64, .int .i64, .int .i64, .bool]], ((evalFn Tryd.prog (period_open_1.tb) period_open_1.A Tryd.f55 (.one (.leaf .bool)) (TT.lo false [.agg [.int .i64, .int .i64, .int .i64, .bool]] x) H.empty).bind fun p => rdRes false p.2 (.one (.leaf .bool)) (Res.un (.one (.leaf .bool)) p.1)) = period_open_1P x := by
  intro x
  rw [show TT.lo false [.agg [.int .i64, .int .i64, .int .i64, .bool]] x = TT.un [.agg [.int .i64, .int .i64, .int .i64, .bool]] (x) from rfl, period_open_1.eq]
  rfl
noncomputable def period_open_1P.e : Entry := mkP [.agg [.int .i64, .int .i64, .int .i64, .bool]] (.one (.leaf .bool)) fun x => period_open_1P x
theorem period_open_1P.ok : EntryOK Tryd.prog 55 (period_open_1P.e) := mkP_ok (period_open_1.tbok) Tryd.mixed Tryd.func55 (by kernel_rfl) period_open_1P.eq

/-! ### spile/period.open: function 44 -/
noncomputable def period_open.tb : Table := tab [] [(55, period_open_1P.e)] Table.nil
theorem period_open.tbok : TabOK Tryd.prog (period_open.tb) := TabOK.tab (TabOK.nil Tryd.prog) (all_nil _) (all_cons period_open_1P.ok (all_nil _))
noncomputable def period_open (a0 : SV) (h : H) : Option ((Int) × H) :=
((slices_IndexFunc_api_Period_api_Period period_open.tb a0 (.func 55 [] : V) h).bind fun (r1, h2) =>
(some (r1, h2)))
def period_open.A : Ann := { lits := [], conds := [], loops := [], regs := [] }
noncomputable def period_open.tc : Table := tab [(34, slices_IndexFunc_api_Period_api_Period.e (period_open.tb))] [] (period_open.tb)
theorem period_open.tcok : TabOK Tryd.prog (period_open.tc) := TabOK.tab (period_open.tbok) (all_cons (slices_IndexFunc_api_Period_api_Period.ok _ (period_open.tbok)) (all_nil _)) (all_nil _)
theorem period_open.eq : ∀ (x : TT [.leaf .slice]) (h : H), evalFn Tryd.prog (period_open.tc) period_open.A Tryd.f44 (.one (.leaf (.int .i64))) (TT.un [.leaf .slice] x) h = period_open x h := by
  intro x h
  kernel_rfl
noncomputable def period_open.e : Entry := mkX [.leaf .slice] (.one (.leaf (.int .i64))) fun x h => period_open x h
theorem period_open.ok : EntryOK Tryd.prog 44 (period_open.e) := mkX_ok (period_open.tcok) Tryd.mixed Tryd.func44 (by kernel_rfl) (period_open.eq)
noncomputable def period_openP (a0 : (List (Int × Int × Int × Bool))) : Option (Int) := (period_open (rowSV false [.int .i64, .int .i64, .int .i64, .bool] a0) H.empty).bind fun p => rdRes false p.2 (.one (.leaf (.int .i64))) (Res.un (.one (.leaf (.int .i64))) p.1)
theorem period_openP.eq : ∀ x : TT [.leaf (.row [.int .i64, .int .i64, .int .i64, .bool])], ((evalFn Tryd.prog (period_open.tc) period_open.A Tryd.f44 (.one (.leaf (.int .i64))) (TT.lo false [.leaf (.row [.int .i64, .int .i64, .int .i64, .bool])] x) H.empty).bind fun p => rdRes false p.2 (.one (.leaf (.int .i64))) (Res.un (.one (.leaf (.int .i64))) p.1)) = period_openP x := by
  intro x
  rw [show TT.lo false [.leaf (.row [.int .i64, .int .i64, .int .i64, .bool])] x = TT.un [.leaf .slice] ((rowSV false [.int .i64, .int .i64, .int .i64, .bool] x)) from rfl, period_open.eq]
  rfl
noncomputable def period_openP.e : Entry := mkP [.leaf (.row [.int .i64, .int .i64, .int .i64, .bool])] (.one (.leaf (.int .i64))) fun x => period_openP x
theorem period_openP.ok : EntryOK Tryd.prog 44 (period_openP.e) := mkP_ok (period_open.tcok) Tryd.mixed Tryd.func44 (by kernel_rfl) period_openP.eq

/-! ### spile/period.Charged: function 17 -/
noncomputable def period_Charged.tb : Table := tab [(15, period_OfP.e), (44, period_openP.e)] [] Table.nil
theorem period_Charged.tbok : TabOK Tryd.prog (period_Charged.tb) := TabOK.tab (TabOK.nil Tryd.prog) (all_cons period_OfP.ok (all_cons period_openP.ok (all_nil _))) (all_nil _)
noncomputable def period_Charged (a0 : SV) (a1 : Int) (h : H) : Option ((Int × Int) × H) :=
((rdRow true h [.int .i64, .int .i64, .int .i64, .bool] a0).bind fun s3 =>
((period_OfP s3 a1).bind fun (r1, r2) =>
(bif (!(decide (r2 = 0))) then (some (((-1), r2), h)) else ((rdRow true h [.int .i64, .int .i64, .int .i64, .bool] a0).bind fun s5 =>
((period_openP s5).bind fun r4 =>
(bif (decide (r4 < 0)) then (some (((-1), 11), h)) else (some (((maxI r4 r1), 0), h))))))))
def period_Charged.A : Ann := { lits := [], conds := [], loops := [], regs := [] }
theorem period_Charged.eq : ∀ (x : TT [.leaf .slice, .leaf (.int .i64)]) (h : H), evalFn Tryd.prog (period_Charged.tb) period_Charged.A Tryd.f17 (.many [.leaf (.int .i64), .leaf (.int .i64)]) (TT.un [.leaf .slice, .leaf (.int .i64)] x) h = period_Charged x.1 x.2 h := by
  intro x h
  kernel_rfl
noncomputable def period_Charged.e : Entry := mkX [.leaf .slice, .leaf (.int .i64)] (.many [.leaf (.int .i64), .leaf (.int .i64)]) fun x h => period_Charged x.1 x.2 h
theorem period_Charged.ok : EntryOK Tryd.prog 17 (period_Charged.e) := mkX_ok (period_Charged.tbok) Tryd.mixed Tryd.func17 (by kernel_rfl) (period_Charged.eq)
noncomputable def period_ChargedP (a0 : (List (Int × Int × Int × Bool))) (a1 : Int) : Option (Int × Int) := (period_Charged (rowSV false [.int .i64, .int .i64, .int .i64, .bool] a0) a1 H.empty).bind fun p => rdRes false p.2 (.many [.leaf (.int .i64), .leaf (.int .i64)]) (Res.un (.many [.leaf (.int .i64), .leaf (.int .i64)]) p.1)
theorem period_ChargedP.eq : ∀ x : TT [.leaf (.row [.int .i64, .int .i64, .int .i64, .bool]), .leaf (.int .i64)], ((evalFn Tryd.prog (period_Charged.tb) period_Charged.A Tryd.f17 (.many [.leaf (.int .i64), .leaf (.int .i64)]) (TT.lo false [.leaf (.row [.int .i64, .int .i64, .int .i64, .bool]), .leaf (.int .i64)] x) H.empty).bind fun p => rdRes false p.2 (.many [.leaf (.int .i64), .leaf (.int .i64)]) (Res.un (.many [.leaf (.int .i64), .leaf (.int .i64)]) p.1)) = period_ChargedP x.1 x.2 := by
  intro x
  rw [show TT.lo false [.leaf (.row [.int .i64, .int .i64, .int .i64, .bool]), .leaf (.int .i64)] x = TT.un [.leaf .slice, .leaf (.int .i64)] ((rowSV false [.int .i64, .int .i64, .int .i64, .bool] x.1), x.2) from rfl, period_Charged.eq]
  rfl
noncomputable def period_ChargedP.e : Entry := mkP [.leaf (.row [.int .i64, .int .i64, .int .i64, .bool]), .leaf (.int .i64)] (.many [.leaf (.int .i64), .leaf (.int .i64)]) fun x => period_ChargedP x.1 x.2
theorem period_ChargedP.ok : EntryOK Tryd.prog 17 (period_ChargedP.e) := mkP_ok (period_Charged.tbok) Tryd.mixed Tryd.func17 (by kernel_rfl) period_ChargedP.eq
end Go.Proofs.YtedhmdocimkldaaDoor
