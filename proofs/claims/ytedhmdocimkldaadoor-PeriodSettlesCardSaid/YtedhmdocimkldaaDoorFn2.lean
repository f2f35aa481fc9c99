/- The functions of the program as Lean functions, each with the equation by which the evaluator is that function. Written by a program of this session (evdrive.py). Conditions: none. -/
import Derived.Test.YtedhmdocimkldaaDoorProg
import Derived.Test.YtedhmdocimkldaaDoorEvSpec
import Derived.Test.YtedhmdocimkldaaDoorFn1
namespace Go.Proofs.YtedhmdocimkldaaDoor
open Go Go.Proofs.YtedhmdocimkldaaDoor.Ev
set_option maxRecDepth 100000
set_option linter.unusedVariables false
/-! ### spile/spileref50.Check: function 14 -/
noncomputable def spileref50_Check.tb : Table := tab [] [] Table.nil
theorem spileref50_Check.tbok : TabOK Tryd.prog (spileref50_Check.tb) := TabOK.tab (TabOK.nil Tryd.prog) (all_nil _) (all_nil _)
noncomputable def spileref50_Check.loop1 (a0 : SV) : (Int) × H → Option (Stp ((Int) × H) (Flow (Unit) (Int × Int) × H)) := fun (y1, h2) =>
(bif (decide (y1 < ((a0.len : Nat) : Int))) then (guardO (0 ≤ y1 ∧ y1 < ((a0.len : Nat) : Int)) ((rdT (.agg [.int .i64, .int .i64, .int .i64, .bool]) h2 (V.add a0.a (Int.toNat y1 * 4))).bind fun (x3_0, x3_1, x3_2, x3_3) =>
(let h4 : H := H.new h2 [.int .i64 0, .int .i64 0, .int .i64 0, .bool false] 4
((H.wrs h4 (.hp h2.next 4 0) [.int .i64 x3_0, .int .i64 x3_1, .int .i64 x3_2, .bool x3_3]).bind fun h5 =>
((((rdT (.leaf (.int .i64)) h5 (.hp h2.next 4 0)).bind fun x6 =>
(bif !(decide (x6 < 0)) then ((rdT (.leaf (.int .i64)) h5 (.hp h2.next 4 0)).bind fun x7 =>
((rdT (.leaf (.int .i64)) h5 (.hp h2.next 4 1)).bind fun x8 =>
(bif !(decide (x8 < x7)) then ((rdT (.leaf (.int .i64)) h5 (.hp h2.next 4 1)).bind fun x9 =>
((rdT (.leaf (.int .i64)) h5 (.hp h2.next 4 2)).bind fun x10 =>
(bif !(decide (x10 < x9)) then ((rdT (.leaf (.int .i64)) h5 (.hp h2.next 4 2)).bind fun x11 =>
(some ((decide ((100000 : Int) < x11)), h5))) else (some (true, h5))))) else (some (true, h5))))) else (some (true, h5))))).bind fun (y12, h13) =>
(bif y12 then (some (.done (.ret (y1, 2), h13))) else (((let h14 : H := H.reserve h13 0
(bif (decide ((0 : Int) < y1)) then ((rdT (.leaf (.int .i64)) h14 (.hp h2.next 4 0)).bind fun x15 =>
(guardO (0 ≤ (IntKind.wrap .i64 (y1 - 1)) ∧ (IntKind.wrap .i64 (y1 - 1)) < ((a0.len : Nat) : Int)) (guardO (V.nn ((V.add a0.a (Int.toNat (IntKind.wrap .i64 (y1 - 1)) * 4)) : V) = true) ((rdT (.leaf (.int .i64)) h14 (V.add (V.add a0.a (Int.toNat (IntKind.wrap .i64 (y1 - 1)) * 4)) 1)).bind fun x16 =>
(some ((!(decide (x15 = (IntKind.wrap .i64 (x16 + 1))))), h14)))))) else (some (false, h14))))).bind fun (y17, h18) =>
(bif y17 then (some (.done (.ret (y1, 5), h18))) else (((bif (decide ((0 : Int) < y1)) then ((rdT (.leaf .bool) h18 (.hp h2.next 4 3)).bind fun x19 =>
(bif x19 then (guardO (0 ≤ (IntKind.wrap .i64 (y1 - 1)) ∧ (IntKind.wrap .i64 (y1 - 1)) < ((a0.len : Nat) : Int)) (guardO (V.nn ((V.add a0.a (Int.toNat (IntKind.wrap .i64 (y1 - 1)) * 4)) : V) = true) ((rdT (.leaf .bool) h18 (V.add (V.add a0.a (Int.toNat (IntKind.wrap .i64 (y1 - 1)) * 4)) 3)).bind fun x20 =>
(some ((!x20), h18))))) else (some (false, h18)))) else (some (false, h18)))).bind fun (y21, h22) =>
(bif y21 then (some (.done (.ret (y1, 11), h22))) else (some (.more ((IntKind.wrap .i64 (y1 + 1)), h22))))))))))))) else (some (.done (.ex0 (), h2))))
noncomputable def spileref50_Check (a0 : SV) (h : H) : Option ((Int × Int) × H) :=
(bif (decide ((64 : Int) < ((a0.len : Nat) : Int))) then (some (((-1), 8), h)) else ((iter FUEL (spileref50_Check.loop1 a0) (0, h)).bind fun (fl24, h23) => match fl24 with
| .next _ => none
| .ret rr25 => (some (rr25, h23))
| .ex0 _ =>
(some (((-1), 0), h23))
| .ex1 _ => none))
def spileref50_Check.A : Ann := { lits := [], conds := [], loops := [(4, [4], [.leaf (.int .i64)], [], [], some 0, none)], regs := [(7, [19], [.leaf .bool]), (9, [43], [.leaf .bool]), (11, [59], [.leaf .bool])] }
theorem spileref50_Check.eq : ∀ (x : TT [.leaf .slice]) (h : H), evalFn Tryd.prog (spileref50_Check.tb) spileref50_Check.A Tryd.f14 (.many [.leaf (.int .i64), .leaf (.int .i64)]) (TT.un [.leaf .slice] x) h = spileref50_Check x h := by
  intro x h
  kernel_rfl
noncomputable def spileref50_Check.e : Entry := mkX [.leaf .slice] (.many [.leaf (.int .i64), .leaf (.int .i64)]) fun x h => spileref50_Check x h
theorem spileref50_Check.ok : EntryOK Tryd.prog 14 (spileref50_Check.e) := mkX_ok (spileref50_Check.tbok) Tryd.mixed Tryd.func14 (by kernel_rfl) (spileref50_Check.eq)
noncomputable def spileref50_CheckP (a0 : (List (Int × Int × Int × Bool))) : Option (Int × Int) := (spileref50_Check (rowSV false [.int .i64, .int .i64, .int .i64, .bool] a0) H.empty).bind fun p => rdRes false p.2 (.many [.leaf (.int .i64), .leaf (.int .i64)]) (Res.un (.many [.leaf (.int .i64), .leaf (.int .i64)]) p.1)
theorem spileref50_CheckP.eq : ∀ x : TT [.leaf (.row [.int .i64, .int .i64, .int .i64, .bool])], ((evalFn Tryd.prog (spileref50_Check.tb) spileref50_Check.A Tryd.f14 (.many [.leaf (.int .i64), .leaf (.int .i64)]) (TT.lo false [.leaf (.row [.int .i64, .int .i64, .int .i64, .bool])] x) H.empty).bind fun p => rdRes false p.2 (.many [.leaf (.int .i64), .leaf (.int .i64)]) (Res.un (.many [.leaf (.int .i64), .leaf (.int .i64)]) p.1)) = spileref50_CheckP x := by
  intro x
  rw [show TT.lo false [.leaf (.row [.int .i64, .int .i64, .int .i64, .bool])] x = TT.un [.leaf .slice] ((rowSV false [.int .i64, .int .i64, .int .i64, .bool] x)) from rfl, spileref50_Check.eq]
  rfl
noncomputable def spileref50_CheckP.e : Entry := mkP [.leaf (.row [.int .i64, .int .i64, .int .i64, .bool])] (.many [.leaf (.int .i64), .leaf (.int .i64)]) fun x => spileref50_CheckP x
theorem spileref50_CheckP.ok : EntryOK Tryd.prog 14 (spileref50_CheckP.e) := mkP_ok (spileref50_Check.tbok) Tryd.mixed Tryd.func14 (by kernel_rfl) spileref50_CheckP.eq

/-! ### spile/spileref47.Between: function 43 -/
noncomputable def spileref47_Between.tb : Table := tab [] [] Table.nil
theorem spileref47_Between.tbok : TabOK Tryd.prog (spileref47_Between.tb) := TabOK.tab (TabOK.nil Tryd.prog) (all_nil _) (all_nil _)
noncomputable def spileref47_Between (a0 : Int) (a1 : Int) (a2 : Int) (h : H) : Option ((Bool) × H) :=
(((bif (decide (a1 ≤ a0)) then (some ((decide (a0 ≤ a2)), h)) else (some (false, h)))).bind fun (y1, h2) =>
(some (y1, h2)))
def spileref47_Between.A : Ann := { lits := [], conds := [], loops := [], regs := [(1, [6], [.leaf .bool])] }
theorem spileref47_Between.eq : ∀ (x : TT [.leaf (.int .i64), .leaf (.int .i64), .leaf (.int .i64)]) (h : H), evalFn Tryd.prog (spileref47_Between.tb) spileref47_Between.A Tryd.f43 (.one (.leaf .bool)) (TT.un [.leaf (.int .i64), .leaf (.int .i64), .leaf (.int .i64)] x) h = spileref47_Between x.1 x.2.1 x.2.2 h := by
  intro x h
  kernel_rfl
noncomputable def spileref47_Between.e : Entry := mkX [.leaf (.int .i64), .leaf (.int .i64), .leaf (.int .i64)] (.one (.leaf .bool)) fun x h => spileref47_Between x.1 x.2.1 x.2.2 h
theorem spileref47_Between.ok : EntryOK Tryd.prog 43 (spileref47_Between.e) := mkX_ok (spileref47_Between.tbok) Tryd.mixed Tryd.func43 (by kernel_rfl) (spileref47_Between.eq)
noncomputable def spileref47_BetweenP (a0 : Int) (a1 : Int) (a2 : Int) : Option (Bool) := (spileref47_Between a0 a1 a2 H.empty).bind fun p => rdRes false p.2 (.one (.leaf .bool)) (Res.un (.one (.leaf .bool)) p.1)
theorem spileref47_BetweenP.eq : ∀ x : TT [.leaf (.int .i64), .leaf (.int .i64), .leaf (.int .i64)], ((evalFn Tryd.prog (spileref47_Between.tb) spileref47_Between.A Tryd.f43 (.one (.leaf .bool)) (TT.lo false [.leaf (.int .i64), .leaf (.int .i64), .leaf (.int .i64)] x) H.empty).bind fun p => rdRes false p.2 (.one (.leaf .bool)) (Res.un (.one (.leaf .bool)) p.1)) = spileref47_BetweenP x.1 x.2.1 x.2.2 := by
  intro x
  rw [show TT.lo false [.leaf (.int .i64), .leaf (.int .i64), .leaf (.int .i64)] x = TT.un [.leaf (.int .i64), .leaf (.int .i64), .leaf (.int .i64)] (x.1, x.2.1, x.2.2) from rfl, spileref47_Between.eq]
  rfl
noncomputable def spileref47_BetweenP.e : Entry := mkP [.leaf (.int .i64), .leaf (.int .i64), .leaf (.int .i64)] (.one (.leaf .bool)) fun x => spileref47_BetweenP x.1 x.2.1 x.2.2
theorem spileref47_BetweenP.ok : EntryOK Tryd.prog 43 (spileref47_BetweenP.e) := mkP_ok (spileref47_Between.tbok) Tryd.mixed Tryd.func43 (by kernel_rfl) spileref47_BetweenP.eq

/-! ### spile/spileref50.Of: function 16 -/
noncomputable def spileref50_Of.tb : Table := tab [(14, spileref50_CheckP.e), (43, spileref47_BetweenP.e)] [] Table.nil
theorem spileref50_Of.tbok : TabOK Tryd.prog (spileref50_Of.tb) := TabOK.tab (TabOK.nil Tryd.prog) (all_cons spileref50_CheckP.ok (all_cons spileref47_BetweenP.ok (all_nil _))) (all_nil _)
noncomputable def spileref50_Of.loop1 (a0 : SV) (a1 : Int) : (Int) × H → Option (Stp ((Int) × H) (Flow (Unit) (Int × Int) × H)) := fun (y4, h5) =>
(bif (decide (y4 < ((a0.len : Nat) : Int))) then (let h6 : H := H.reserve h5 0
(guardO (0 ≤ y4 ∧ y4 < ((a0.len : Nat) : Int)) (guardO (V.nn ((V.add a0.a (Int.toNat y4 * 4)) : V) = true) ((rdT (.leaf (.int .i64)) h6 (V.add (V.add a0.a (Int.toNat y4 * 4)) 0)).bind fun x7 =>
(guardO (0 ≤ y4 ∧ y4 < ((a0.len : Nat) : Int)) (guardO (V.nn ((V.add a0.a (Int.toNat y4 * 4)) : V) = true) ((rdT (.leaf (.int .i64)) h6 (V.add (V.add a0.a (Int.toNat y4 * 4)) 1)).bind fun x8 =>
((spileref47_BetweenP a1 x7 x8).bind fun r9 =>
(bif r9 then (some (.done (.ret (y4, 0), h6))) else (some (.more ((IntKind.wrap .i64 (y4 + 1)), h6)))))))))))) else (some (.done (.ex0 (), h5))))
noncomputable def spileref50_Of (a0 : SV) (a1 : Int) (h : H) : Option ((Int × Int) × H) :=
((rdRow true h [.int .i64, .int .i64, .int .i64, .bool] a0).bind fun s3 =>
((spileref50_CheckP s3).bind fun (r1, r2) =>
(bif (!(decide (r2 = 0))) then (some (((-1), 1), h)) else ((iter FUEL (spileref50_Of.loop1 a0 a1) (0, h)).bind fun (fl11, h10) => match fl11 with
| .next _ => none
| .ret rr12 => (some (rr12, h10))
| .ex0 _ =>
(some (((-1), 7), h10))
| .ex1 _ => none))))
def spileref50_Of.A : Ann := { lits := [], conds := [], loops := [(5, [8], [.leaf (.int .i64)], [], [], some 0, none)], regs := [] }
theorem spileref50_Of.eq : ∀ (x : TT [.leaf .slice, .leaf (.int .i64)]) (h : H), evalFn Tryd.prog (spileref50_Of.tb) spileref50_Of.A Tryd.f16 (.many [.leaf (.int .i64), .leaf (.int .i64)]) (TT.un [.leaf .slice, .leaf (.int .i64)] x) h = spileref50_Of x.1 x.2 h := by
  intro x h
  kernel_rfl
noncomputable def spileref50_Of.e : Entry := mkX [.leaf .slice, .leaf (.int .i64)] (.many [.leaf (.int .i64), .leaf (.int .i64)]) fun x h => spileref50_Of x.1 x.2 h
theorem spileref50_Of.ok : EntryOK Tryd.prog 16 (spileref50_Of.e) := mkX_ok (spileref50_Of.tbok) Tryd.mixed Tryd.func16 (by kernel_rfl) (spileref50_Of.eq)
noncomputable def spileref50_OfP (a0 : (List (Int × Int × Int × Bool))) (a1 : Int) : Option (Int × Int) := (spileref50_Of (rowSV false [.int .i64, .int .i64, .int .i64, .bool] a0) a1 H.empty).bind fun p => rdRes false p.2 (.many [.leaf (.int .i64), .leaf (.int .i64)]) (Res.un (.many [.leaf (.int .i64), .leaf (.int .i64)]) p.1)
theorem spileref50_OfP.eq : ∀ x : TT [.leaf (.row [.int .i64, .int .i64, .int .i64, .bool]), .leaf (.int .i64)], ((evalFn Tryd.prog (spileref50_Of.tb) spileref50_Of.A Tryd.f16 (.many [.leaf (.int .i64), .leaf (.int .i64)]) (TT.lo false [.leaf (.row [.int .i64, .int .i64, .int .i64, .bool]), .leaf (.int .i64)] x) H.empty).bind fun p => rdRes false p.2 (.many [.leaf (.int .i64), .leaf (.int .i64)]) (Res.un (.many [.leaf (.int .i64), .leaf (.int .i64)]) p.1)) = spileref50_OfP x.1 x.2 := by
  intro x
  rw [show TT.lo false [.leaf (.row [.int .i64, .int .i64, .int .i64, .bool]), .leaf (.int .i64)] x = TT.un [.leaf .slice, .leaf (.int .i64)] ((rowSV false [.int .i64, .int .i64, .int .i64, .bool] x.1), x.2) from rfl, spileref50_Of.eq]
  rfl
noncomputable def spileref50_OfP.e : Entry := mkP [.leaf (.row [.int .i64, .int .i64, .int .i64, .bool]), .leaf (.int .i64)] (.many [.leaf (.int .i64), .leaf (.int .i64)]) fun x => spileref50_OfP x.1 x.2
theorem spileref50_OfP.ok : EntryOK Tryd.prog 16 (spileref50_OfP.e) := mkP_ok (spileref50_Of.tbok) Tryd.mixed Tryd.func16 (by kernel_rfl) spileref50_OfP.eq

/-! ### spile/spileref50.open: function 45 -/
noncomputable def spileref50_open.tb : Table := tab [] [] Table.nil
theorem spileref50_open.tbok : TabOK Tryd.prog (spileref50_open.tb) := TabOK.tab (TabOK.nil Tryd.prog) (all_nil _) (all_nil _)
noncomputable def spileref50_open.loop1 (a0 : SV) : (Int) × H → Option (Stp ((Int) × H) (Flow (Unit) (Int) × H)) := fun (y1, h2) =>
(bif (decide (y1 < ((a0.len : Nat) : Int))) then (guardO (0 ≤ y1 ∧ y1 < ((a0.len : Nat) : Int)) (guardO (V.nn ((V.add a0.a (Int.toNat y1 * 4)) : V) = true) ((rdT (.leaf .bool) h2 (V.add (V.add a0.a (Int.toNat y1 * 4)) 3)).bind fun x3 =>
(bif (!x3) then (some (.done (.ret y1, h2))) else (some (.more ((IntKind.wrap .i64 (y1 + 1)), h2))))))) else (some (.done (.ex0 (), h2))))
noncomputable def spileref50_open (a0 : SV) (h : H) : Option ((Int) × H) :=
((iter FUEL (spileref50_open.loop1 a0) (0, h)).bind fun (fl5, h4) => match fl5 with
| .next _ => none
| .ret rr6 => (some (rr6, h4))
| .ex0 _ =>
(some ((-1), h4))
| .ex1 _ => none)
def spileref50_open.A : Ann := { lits := [], conds := [], loops := [(2, [3], [.leaf (.int .i64)], [], [], some 0, none)], regs := [] }
theorem spileref50_open.eq : ∀ (x : TT [.leaf .slice]) (h : H), evalFn Tryd.prog (spileref50_open.tb) spileref50_open.A Tryd.f45 (.one (.leaf (.int .i64))) (TT.un [.leaf .slice] x) h = spileref50_open x h := by
  intro x h
  kernel_rfl
noncomputable def spileref50_open.e : Entry := mkX [.leaf .slice] (.one (.leaf (.int .i64))) fun x h => spileref50_open x h
theorem spileref50_open.ok : EntryOK Tryd.prog 45 (spileref50_open.e) := mkX_ok (spileref50_open.tbok) Tryd.mixed Tryd.func45 (by kernel_rfl) (spileref50_open.eq)
noncomputable def spileref50_openP (a0 : (List (Int × Int × Int × Bool))) : Option (Int) := (spileref50_open (rowSV false [.int .i64, .int .i64, .int .i64, .bool] a0) H.empty).bind fun p => rdRes false p.2 (.one (.leaf (.int .i64))) (Res.un (.one (.leaf (.int .i64))) p.1)
theorem spileref50_openP.eq : ∀ x : TT [.leaf (.row [.int .i64, .int .i64, .int .i64, .bool])], ((evalFn Tryd.prog (spileref50_open.tb) spileref50_open.A Tryd.f45 (.one (.leaf (.int .i64))) (TT.lo false [.leaf (.row [.int .i64, .int .i64, .int .i64, .bool])] x) H.empty).bind fun p => rdRes false p.2 (.one (.leaf (.int .i64))) (Res.un (.one (.leaf (.int .i64))) p.1)) = spileref50_openP x := by
  intro x
  rw [show TT.lo false [.leaf (.row [.int .i64, .int .i64, .int .i64, .bool])] x = TT.un [.leaf .slice] ((rowSV false [.int .i64, .int .i64, .int .i64, .bool] x)) from rfl, spileref50_open.eq]
  rfl
noncomputable def spileref50_openP.e : Entry := mkP [.leaf (.row [.int .i64, .int .i64, .int .i64, .bool])] (.one (.leaf (.int .i64))) fun x => spileref50_openP x
theorem spileref50_openP.ok : EntryOK Tryd.prog 45 (spileref50_openP.e) := mkP_ok (spileref50_open.tbok) Tryd.mixed Tryd.func45 (by kernel_rfl) spileref50_openP.eq

/-! ### spile/spileref50.Charged: function 18 -/
noncomputable def spileref50_Charged.tb : Table := tab [(16, spileref50_OfP.e), (45, spileref50_openP.e)] [] Table.nil
theorem spileref50_Charged.tbok : TabOK Tryd.prog (spileref50_Charged.tb) := TabOK.tab (TabOK.nil Tryd.prog) (all_cons spileref50_OfP.ok (all_cons spileref50_openP.ok (all_nil _))) (all_nil _)
noncomputable def spileref50_Charged (a0 : SV) (a1 : Int) (h : H) : Option ((Int × Int) × H) :=
((rdRow true h [.int .i64, .int .i64, .int .i64, .bool] a0).bind fun s3 =>
((spileref50_OfP s3 a1).bind fun (r1, r2) =>
(bif (!(decide (r2 = 0))) then (some (((-1), r2), h)) else (guardO (0 ≤ r1 ∧ r1 < ((a0.len : Nat) : Int)) (guardO (V.nn ((V.add a0.a (Int.toNat r1 * 4)) : V) = true) ((rdT (.leaf .bool) h (V.add (V.add a0.a (Int.toNat r1 * 4)) 3)).bind fun x4 =>
(bif (!x4) then (some ((r1, 0), h)) else ((rdRow true h [.int .i64, .int .i64, .int .i64, .bool] a0).bind fun s6 =>
((spileref50_openP s6).bind fun r5 =>
(bif (decide (r5 < 0)) then (some (((-1), 11), h)) else (some ((r5, 0), h))))))))))))
def spileref50_Charged.A : Ann := { lits := [], conds := [], loops := [], regs := [] }
theorem spileref50_Charged.eq : ∀ (x : TT [.leaf .slice, .leaf (.int .i64)]) (h : H), evalFn Tryd.prog (spileref50_Charged.tb) spileref50_Charged.A Tryd.f18 (.many [.leaf (.int .i64), .leaf (.int .i64)]) (TT.un [.leaf .slice, .leaf (.int .i64)] x) h = spileref50_Charged x.1 x.2 h := by
  intro x h
  kernel_rfl
noncomputable def spileref50_Charged.e : Entry := mkX [.leaf .slice, .leaf (.int .i64)] (.many [.leaf (.int .i64), .leaf (.int .i64)]) fun x h => spileref50_Charged x.1 x.2 h
theorem spileref50_Charged.ok : EntryOK Tryd.prog 18 (spileref50_Charged.e) := mkX_ok (spileref50_Charged.tbok) Tryd.mixed Tryd.func18 (by kernel_rfl) (spileref50_Charged.eq)
noncomputable def spileref50_ChargedP (a0 : (List (Int × Int × Int × Bool))) (a1 : Int) : Option (Int × Int) := (spileref50_Charged (rowSV false [.int .i64, .int .i64, .int .i64, .bool] a0) a1 H.empty).bind fun p => rdRes false p.2 (.many [.leaf (.int .i64), .leaf (.int .i64)]) (Res.un (.many [.leaf (.int .i64), .leaf (.int .i64)]) p.1)
theorem spileref50_ChargedP.eq : ∀ x : TT [.leaf (.row [.int .i64, .int .i64, .int .i64, .bool]), .leaf (.int .i64)], ((evalFn Tryd.prog (spileref50_Charged.tb) spileref50_Charged.A Tryd.f18 (.many [.leaf (.int .i64), .leaf (.int .i64)]) (TT.lo false [.leaf (.row [.int .i64, .int .i64, .int .i64, .bool]), .leaf (.int .i64)] x) H.empty).bind fun p => rdRes false p.2 (.many [.leaf (.int .i64), .leaf (.int .i64)]) (Res.un (.many [.leaf (.int .i64), .leaf (.int .i64)]) p.1)) = spileref50_ChargedP x.1 x.2 := by
  intro x
  rw [show TT.lo false [.leaf (.row [.int .i64, .int .i64, .int .i64, .bool]), .leaf (.int .i64)] x = TT.un [.leaf .slice, .leaf (.int .i64)] ((rowSV false [.int .i64, .int .i64, .int .i64, .bool] x.1), x.2) from rfl, spileref50_Charged.eq]
  rfl
noncomputable def spileref50_ChargedP.e : Entry := mkP [.leaf (.row [.int .i64, .int .i64, .int .i64, .bool]), .leaf (.int .i64)] (.many [.leaf (.int .i64), .leaf (.int .i64)]) fun x => spileref50_ChargedP x.1 x.2
theorem spileref50_ChargedP.ok : EntryOK Tryd.prog 18 (spileref50_ChargedP.e) := mkP_ok (spileref50_Charged.tbok) Tryd.mixed Tryd.func18 (by kernel_rfl) spileref50_ChargedP.eq

/-! ### spile/spileref50.Plan: function 20 -/
noncomputable def spileref50_Plan.tb : Table := tab [(43, spileref47_BetweenP.e)] [] Table.nil
theorem spileref50_Plan.tbok : TabOK Tryd.prog (spileref50_Plan.tb) := TabOK.tab (TabOK.nil Tryd.prog) (all_cons spileref47_BetweenP.ok (all_nil _)) (all_nil _)
noncomputable def spileref50_Plan.loop1 (a0 : Int) (a1 : Int) (a2 : Int) (a3 : Int) : (SV × Int) × H → Option (Stp ((SV × Int) × H) (Flow (SV) (SV × Int) × H)) := fun ((y7, y8), h9) =>
(bif (decide (y8 < a2)) then (let h10 : H := H.new h9 [.int .i64 0, .int .i64 0, .int .i64 0, .bool false] 4
((H.wrs h10 (.hp h9.next 4 0) [.int .i64 (IntKind.wrap .i64 (a0 + (IntKind.wrap .i64 (y8 * a1)))), .int .i64 (IntKind.wrap .i64 ((IntKind.wrap .i64 (a0 + (IntKind.wrap .i64 ((IntKind.wrap .i64 (y8 + 1)) * a1)))) - 1)), .int .i64 0, .bool false]).bind fun h11 =>
((rdT (.leaf (.int .i64)) h11 (.hp h9.next 4 1)).bind fun x12 =>
((H.wrs h11 (.hp h9.next 4 2) [.int .i64 (IntKind.wrap .i64 (x12 + a3))]).bind fun h13 =>
((rdT (.leaf (.int .i64)) h13 (.hp h9.next 4 2)).bind fun x14 =>
(bif (decide ((100000 : Int) < x14)) then (some (.done (.ret (⟨.nil, 0, 0, false⟩, 15), h13))) else ((rdT (.agg [.int .i64, .int .i64, .int .i64, .bool]) h13 (.hp h9.next 4 0)).bind fun (x15_0, x15_1, x15_2, x15_3) =>
((appendS h13 none 4 32 y7 [.int .i64 x15_0, .int .i64 x15_1, .int .i64 x15_2, .bool x15_3] 1).bind fun (s18, h17) =>
(some (.more ((s18, (IntKind.wrap .i64 (y8 + 1))), h17))))))))))) else (some (.done (.ex0 y7, h9))))
noncomputable def spileref50_Plan (a0 : Int) (a1 : Int) (a2 : Int) (a3 : Int) (h : H) : Option ((SV × Int) × H) :=
((((spileref47_BetweenP a0 0 100000).bind fun r1 =>
(bif !(!r1) then ((spileref47_BetweenP a1 1 100000).bind fun r2 =>
(bif !(!r2) then ((spileref47_BetweenP a2 1 64).bind fun r3 =>
(bif !(!r3) then ((spileref47_BetweenP a3 0 100000).bind fun r4 =>
(some ((!r4), h))) else (some (true, h)))) else (some (true, h)))) else (some (true, h))))).bind fun (y5, h6) =>
(bif y5 then (some ((⟨.nil, 0, 0, false⟩, 2), h6)) else ((iter FUEL (spileref50_Plan.loop1 a0 a1 a2 a3) ((⟨.nil, 0, 0, false⟩, 0), h6)).bind fun (fl21, h20) => match fl21 with
| .next _ => none
| .ret rr22 => (some (rr22, h20))
| .ex0 y23 =>
(some ((y23, 0), h20))
| .ex1 _ => none)))
def spileref50_Plan.A : Ann := { lits := [], conds := [], loops := [(5, [10, 11], [.leaf .slice, .leaf (.int .i64)], [10], [.leaf .slice], some 0, none)], regs := [(1, [30], [.leaf .bool])] }
theorem spileref50_Plan.eq : ∀ (x : TT [.leaf (.int .i64), .leaf (.int .i64), .leaf (.int .i64), .leaf (.int .i64)]) (h : H), evalFn Tryd.prog (spileref50_Plan.tb) spileref50_Plan.A Tryd.f20 (.many [.leaf .slice, .leaf (.int .i64)]) (TT.un [.leaf (.int .i64), .leaf (.int .i64), .leaf (.int .i64), .leaf (.int .i64)] x) h = spileref50_Plan x.1 x.2.1 x.2.2.1 x.2.2.2 h := by
  intro x h
  kernel_rfl
noncomputable def spileref50_Plan.e : Entry := mkX [.leaf (.int .i64), .leaf (.int .i64), .leaf (.int .i64), .leaf (.int .i64)] (.many [.leaf .slice, .leaf (.int .i64)]) fun x h => spileref50_Plan x.1 x.2.1 x.2.2.1 x.2.2.2 h
theorem spileref50_Plan.ok : EntryOK Tryd.prog 20 (spileref50_Plan.e) := mkX_ok (spileref50_Plan.tbok) Tryd.mixed Tryd.func20 (by kernel_rfl) (spileref50_Plan.eq)
noncomputable def spileref50_PlanP (a0 : Int) (a1 : Int) (a2 : Int) (a3 : Int) : Option ((List (Int × Int × Int × Bool)) × Int) := (spileref50_Plan a0 a1 a2 a3 H.empty).bind fun p => rdRes false p.2 (.many [.leaf (.row [.int .i64, .int .i64, .int .i64, .bool]), .leaf (.int .i64)]) (Res.un (.many [.leaf .slice, .leaf (.int .i64)]) p.1)
theorem spileref50_PlanP.eq : ∀ x : TT [.leaf (.int .i64), .leaf (.int .i64), .leaf (.int .i64), .leaf (.int .i64)], ((evalFn Tryd.prog (spileref50_Plan.tb) spileref50_Plan.A Tryd.f20 (.many [.leaf .slice, .leaf (.int .i64)]) (TT.lo false [.leaf (.int .i64), .leaf (.int .i64), .leaf (.int .i64), .leaf (.int .i64)] x) H.empty).bind fun p => rdRes false p.2 (.many [.leaf (.row [.int .i64, .int .i64, .int .i64, .bool]), .leaf (.int .i64)]) (Res.un (.many [.leaf .slice, .leaf (.int .i64)]) p.1)) = spileref50_PlanP x.1 x.2.1 x.2.2.1 x.2.2.2 := by
  intro x
  rw [show TT.lo false [.leaf (.int .i64), .leaf (.int .i64), .leaf (.int .i64), .leaf (.int .i64)] x = TT.un [.leaf (.int .i64), .leaf (.int .i64), .leaf (.int .i64), .leaf (.int .i64)] (x.1, x.2.1, x.2.2.1, x.2.2.2) from rfl, spileref50_Plan.eq]
  rfl
noncomputable def spileref50_PlanP.e : Entry := mkP [.leaf (.int .i64), .leaf (.int .i64), .leaf (.int .i64), .leaf (.int .i64)] (.many [.leaf (.row [.int .i64, .int .i64, .int .i64, .bool]), .leaf (.int .i64)]) fun x => spileref50_PlanP x.1 x.2.1 x.2.2.1 x.2.2.2
theorem spileref50_PlanP.ok : EntryOK Tryd.prog 20 (spileref50_PlanP.e) := mkP_ok (spileref50_Plan.tbok) Tryd.mixed Tryd.func20 (by kernel_rfl) spileref50_PlanP.eq

/-! ### spile/spileref50.Close: function 22 -/
noncomputable def spileref50_Close.tb : Table := tab [(14, spileref50_CheckP.e), (45, spileref50_open.e)] [] Table.nil
theorem spileref50_Close.tbok : TabOK Tryd.prog (spileref50_Close.tb) := TabOK.tab (TabOK.nil Tryd.prog) (all_cons spileref50_CheckP.ok (all_cons spileref50_open.ok (all_nil _))) (all_nil _)
noncomputable def spileref50_Close (a0 : SV) (h : H) : Option ((SV × Int) × H) :=
((rdRow true h [.int .i64, .int .i64, .int .i64, .bool] a0).bind fun s3 =>
((spileref50_CheckP s3).bind fun (r1, r2) =>
(bif (!(decide (r2 = 0))) then (some ((⟨.nil, 0, 0, false⟩, 1), h)) else ((spileref50_open a0 h).bind fun (r4, h5) =>
(bif (decide (r4 < 0)) then (some ((⟨.nil, 0, 0, false⟩, 11), h5)) else ((cellsOf h5 (.slice a0.a a0.len a0.cap a0.tail : V) 4).bind fun (n8, cs8) =>
((appendS h5 none 4 32 (⟨.lp true ([]) 0, 0, 0, false⟩) cs8 n8).bind fun (s8, h7) =>
(guardO (0 ≤ r4 ∧ r4 < ((s8.len : Nat) : Int)) (guardO (V.nn ((V.add s8.a (Int.toNat r4 * 4)) : V) = true) ((H.wrs h7 (V.add (V.add s8.a (Int.toNat r4 * 4)) 3) [.bool true]).bind fun h11 =>
(some ((s8, 0), h11))))))))))))
def spileref50_Close.A : Ann := { lits := [], conds := [], loops := [], regs := [] }
theorem spileref50_Close.eq : ∀ (x : TT [.leaf .slice]) (h : H), evalFn Tryd.prog (spileref50_Close.tb) spileref50_Close.A Tryd.f22 (.many [.leaf .slice, .leaf (.int .i64)]) (TT.un [.leaf .slice] x) h = spileref50_Close x h := by
  intro x h
  kernel_rfl
noncomputable def spileref50_Close.e : Entry := mkX [.leaf .slice] (.many [.leaf .slice, .leaf (.int .i64)]) fun x h => spileref50_Close x h
theorem spileref50_Close.ok : EntryOK Tryd.prog 22 (spileref50_Close.e) := mkX_ok (spileref50_Close.tbok) Tryd.mixed Tryd.func22 (by kernel_rfl) (spileref50_Close.eq)
noncomputable def spileref50_CloseP (a0 : (List (Int × Int × Int × Bool))) : Option ((List (Int × Int × Int × Bool)) × Int) := (spileref50_Close (rowSV false [.int .i64, .int .i64, .int .i64, .bool] a0) H.empty).bind fun p => rdRes false p.2 (.many [.leaf (.row [.int .i64, .int .i64, .int .i64, .bool]), .leaf (.int .i64)]) (Res.un (.many [.leaf .slice, .leaf (.int .i64)]) p.1)
theorem spileref50_CloseP.eq : ∀ x : TT [.leaf (.row [.int .i64, .int .i64, .int .i64, .bool])], ((evalFn Tryd.prog (spileref50_Close.tb) spileref50_Close.A Tryd.f22 (.many [.leaf .slice, .leaf (.int .i64)]) (TT.lo false [.leaf (.row [.int .i64, .int .i64, .int .i64, .bool])] x) H.empty).bind fun p => rdRes false p.2 (.many [.leaf (.row [.int .i64, .int .i64, .int .i64, .bool]), .leaf (.int .i64)]) (Res.un (.many [.leaf .slice, .leaf (.int .i64)]) p.1)) = spileref50_CloseP x := by
  intro x
  rw [show TT.lo false [.leaf (.row [.int .i64, .int .i64, .int .i64, .bool])] x = TT.un [.leaf .slice] ((rowSV false [.int .i64, .int .i64, .int .i64, .bool] x)) from rfl, spileref50_Close.eq]
  rfl
noncomputable def spileref50_CloseP.e : Entry := mkP [.leaf (.row [.int .i64, .int .i64, .int .i64, .bool])] (.many [.leaf (.row [.int .i64, .int .i64, .int .i64, .bool]), .leaf (.int .i64)]) fun x => spileref50_CloseP x
theorem spileref50_CloseP.ok : EntryOK Tryd.prog 22 (spileref50_CloseP.e) := mkP_ok (spileref50_Close.tbok) Tryd.mixed Tryd.func22 (by kernel_rfl) spileref50_CloseP.eq

/-! ### spile/spileref49.Few: function 24 -/
noncomputable def spileref49_Few.tb : Table := tab [] [] Table.nil
theorem spileref49_Few.tbok : TabOK Tryd.prog (spileref49_Few.tb) := TabOK.tab (TabOK.nil Tryd.prog) (all_nil _) (all_nil _)
noncomputable def spileref49_Few (a0 : (Int × Int × SV × Int)) (h : H) : Option ((Bool) × H) :=
(match a0 with
| (a0_0, a0_1, a0_2, a0_3) =>
(let h1 : H := H.new h [.int .i64 a0_0, .int .i64 a0_1, .slice a0_2.a a0_2.len a0_2.cap a0_2.tail, .int .i64 a0_3] 4
((((rdT (.leaf .slice) h1 (.hp h.next 4 2)).bind fun x2 =>
(bif !(decide (((x2.len : Nat) : Int) ≤ 14)) then ((rdT (.leaf .slice) h1 (.hp h.next 4 2)).bind fun x3 =>
(some ((decide (((x3.len : Nat) : Int) = 65)), h1))) else (some (true, h1))))).bind fun (y4, h5) =>
(some (y4, h5)))))
def spileref49_Few.A : Ann := { lits := [], conds := [], loops := [], regs := [(1, [2], [.leaf .bool])] }
theorem spileref49_Few.eq : ∀ (x : TT [.agg [.int .i64, .int .i64, .slice, .int .i64]]) (h : H), evalFn Tryd.prog (spileref49_Few.tb) spileref49_Few.A Tryd.f24 (.one (.leaf .bool)) (TT.un [.agg [.int .i64, .int .i64, .slice, .int .i64]] x) h = spileref49_Few x h := by
  intro x h
  kernel_rfl
noncomputable def spileref49_Few.e : Entry := mkX [.agg [.int .i64, .int .i64, .slice, .int .i64]] (.one (.leaf .bool)) fun x h => spileref49_Few x h
theorem spileref49_Few.ok : EntryOK Tryd.prog 24 (spileref49_Few.e) := mkX_ok (spileref49_Few.tbok) Tryd.mixed Tryd.func24 (by kernel_rfl) (spileref49_Few.eq)
noncomputable def spileref49_FewP (a0 : (Int × Int × (List (Int × Int × Int × Int × Int × Int × Int × Int)) × Int)) : Option (Bool) := (spileref49_Few (a0.1, a0.2.1, rowSV false [.int .i64, .int .i64, .int .i64, .int .i64, .int .i64, .int .i64, .int .i64, .int .i64] a0.2.2.1, a0.2.2.2) H.empty).bind fun p => rdRes false p.2 (.one (.leaf .bool)) (Res.un (.one (.leaf .bool)) p.1)
theorem spileref49_FewP.eq : ∀ x : TT [.agg [.int .i64, .int .i64, .row [.int .i64, .int .i64, .int .i64, .int .i64, .int .i64, .int .i64, .int .i64, .int .i64], .int .i64]], ((evalFn Tryd.prog (spileref49_Few.tb) spileref49_Few.A Tryd.f24 (.one (.leaf .bool)) (TT.lo false [.agg [.int .i64, .int .i64, .row [.int .i64, .int .i64, .int .i64, .int .i64, .int .i64, .int .i64, .int .i64, .int .i64], .int .i64]] x) H.empty).bind fun p => rdRes false p.2 (.one (.leaf .bool)) (Res.un (.one (.leaf .bool)) p.1)) = spileref49_FewP x := by
  intro x
  rw [show TT.lo false [.agg [.int .i64, .int .i64, .row [.int .i64, .int .i64, .int .i64, .int .i64, .int .i64, .int .i64, .int .i64, .int .i64], .int .i64]] x = TT.un [.agg [.int .i64, .int .i64, .slice, .int .i64]] ((x.1, x.2.1, rowSV false [.int .i64, .int .i64, .int .i64, .int .i64, .int .i64, .int .i64, .int .i64, .int .i64] x.2.2.1, x.2.2.2)) from rfl, spileref49_Few.eq]
  rfl
noncomputable def spileref49_FewP.e : Entry := mkP [.agg [.int .i64, .int .i64, .row [.int .i64, .int .i64, .int .i64, .int .i64, .int .i64, .int .i64, .int .i64, .int .i64], .int .i64]] (.one (.leaf .bool)) fun x => spileref49_FewP x
theorem spileref49_FewP.ok : EntryOK Tryd.prog 24 (spileref49_FewP.e) := mkP_ok (spileref49_Few.tbok) Tryd.mixed Tryd.func24 (by kernel_rfl) spileref49_FewP.eq

/-! ### spile/spileref49.Items: function 51 -/
noncomputable def spileref49_Items.tb : Table := tab [] [] Table.nil
theorem spileref49_Items.tbok : TabOK Tryd.prog (spileref49_Items.tb) := TabOK.tab (TabOK.nil Tryd.prog) (all_nil _) (all_nil _)
noncomputable def spileref49_Items.loop1 (h : H) : (SV × Int) × H → Option (Stp ((SV × Int) × H) (Flow (SV) (SV) × H)) := fun ((y2, y3), h4) =>
((rdT (.leaf .slice) h4 (.hp h.next 4 2)).bind fun x5 =>
(bif (decide (y3 < ((x5.len : Nat) : Int))) then ((rdT (.leaf .slice) h4 (.hp h.next 4 2)).bind fun x6 =>
(guardO (0 ≤ y3 ∧ y3 < ((x6.len : Nat) : Int)) (guardO (V.nn ((V.add x6.a (Int.toNat y3 * 8)) : V) = true) ((rdT (.agg [.int .i64, .int .i64, .int .i64, .int .i64, .int .i64]) h4 (V.add (V.add x6.a (Int.toNat y3 * 8)) 0)).bind fun (x7_0, x7_1, x7_2, x7_3, x7_4) =>
((appendS h4 none 5 40 y2 [.int .i64 x7_0, .int .i64 x7_1, .int .i64 x7_2, .int .i64 x7_3, .int .i64 x7_4] 1).bind fun (s10, h9) =>
(some (.more ((s10, (IntKind.wrap .i64 (y3 + 1))), h9)))))))) else (some (.done (.ex0 y2, h4)))))
noncomputable def spileref49_Items (a0 : (Int × Int × SV × Int)) (h : H) : Option ((SV) × H) :=
(match a0 with
| (a0_0, a0_1, a0_2, a0_3) =>
(let h1 : H := H.new h [.int .i64 a0_0, .int .i64 a0_1, .slice a0_2.a a0_2.len a0_2.cap a0_2.tail, .int .i64 a0_3] 4
((iter FUEL (spileref49_Items.loop1 h) ((⟨.nil, 0, 0, false⟩, 0), h1)).bind fun (fl13, h12) => match fl13 with
| .next _ => none
| .ret rr14 => (some (rr14, h12))
| .ex0 y15 =>
(some (y15, h12))
| .ex1 _ => none)))
def spileref49_Items.A : Ann := { lits := [], conds := [], loops := [(3, [3, 4], [.leaf .slice, .leaf (.int .i64)], [3], [.leaf .slice], some 0, none)], regs := [] }
theorem spileref49_Items.eq : ∀ (x : TT [.agg [.int .i64, .int .i64, .slice, .int .i64]]) (h : H), evalFn Tryd.prog (spileref49_Items.tb) spileref49_Items.A Tryd.f51 (.one (.leaf .slice)) (TT.un [.agg [.int .i64, .int .i64, .slice, .int .i64]] x) h = spileref49_Items x h := by
  intro x h
  kernel_rfl
noncomputable def spileref49_Items.e : Entry := mkX [.agg [.int .i64, .int .i64, .slice, .int .i64]] (.one (.leaf .slice)) fun x h => spileref49_Items x h
theorem spileref49_Items.ok : EntryOK Tryd.prog 51 (spileref49_Items.e) := mkX_ok (spileref49_Items.tbok) Tryd.mixed Tryd.func51 (by kernel_rfl) (spileref49_Items.eq)

/-! ### spile/spileref50.duty: function 52 -/
noncomputable def spileref50_duty.tb : Table := tab [] [] Table.nil
theorem spileref50_duty.tbok : TabOK Tryd.prog (spileref50_duty.tb) := TabOK.tab (TabOK.nil Tryd.prog) (all_nil _) (all_nil _)
noncomputable def spileref50_duty.loop1 (h : H) (a1 : Int) : (Int) × H → Option (Stp ((Int) × H) (Flow (Unit) (Int) × H)) := fun (y2, h3) =>
((rdT (.leaf .slice) h3 (.hp h.next 4 2)).bind fun x4 =>
(bif (decide (y2 < ((x4.len : Nat) : Int))) then ((rdT (.leaf .slice) h3 (.hp h.next 4 2)).bind fun x5 =>
(guardO (0 ≤ y2 ∧ y2 < ((x5.len : Nat) : Int)) (guardO (V.nn ((V.add x5.a (Int.toNat y2 * 8)) : V) = true) (guardO (V.nn ((V.add (V.add x5.a (Int.toNat y2 * 8)) 0) : V) = true) ((rdT (.leaf (.int .i64)) h3 (V.add (V.add (V.add x5.a (Int.toNat y2 * 8)) 0) 0)).bind fun x6 =>
(bif (decide (x6 = a1)) then ((rdT (.leaf .slice) h3 (.hp h.next 4 2)).bind fun x7 =>
(guardO (0 ≤ y2 ∧ y2 < ((x7.len : Nat) : Int)) (guardO (V.nn ((V.add x7.a (Int.toNat y2 * 8)) : V) = true) ((rdT (.leaf (.int .i64)) h3 (V.add (V.add x7.a (Int.toNat y2 * 8)) 7)).bind fun x8 =>
(some (.done (.ret x8, h3))))))) else (some (.more ((IntKind.wrap .i64 (y2 + 1)), h3))))))))) else (some (.done (.ex0 (), h3)))))
noncomputable def spileref50_duty (a0 : (Int × Int × SV × Int)) (a1 : Int) (h : H) : Option ((Int) × H) :=
(match a0 with
| (a0_0, a0_1, a0_2, a0_3) =>
(let h1 : H := H.new h [.int .i64 a0_0, .int .i64 a0_1, .slice a0_2.a a0_2.len a0_2.cap a0_2.tail, .int .i64 a0_3] 4
((iter FUEL (spileref50_duty.loop1 h a1) (0, h1)).bind fun (fl10, h9) => match fl10 with
| .next _ => none
| .ret rr11 => (some (rr11, h9))
| .ex0 _ =>
(some (0, h9))
| .ex1 _ => none)))
def spileref50_duty.A : Ann := { lits := [], conds := [], loops := [(2, [5], [.leaf (.int .i64)], [], [], some 0, none)], regs := [] }
theorem spileref50_duty.eq : ∀ (x : TT [.agg [.int .i64, .int .i64, .slice, .int .i64], .leaf (.int .i64)]) (h : H), evalFn Tryd.prog (spileref50_duty.tb) spileref50_duty.A Tryd.f52 (.one (.leaf (.int .i64))) (TT.un [.agg [.int .i64, .int .i64, .slice, .int .i64], .leaf (.int .i64)] x) h = spileref50_duty x.1 x.2 h := by
  intro x h
  kernel_rfl
noncomputable def spileref50_duty.e : Entry := mkX [.agg [.int .i64, .int .i64, .slice, .int .i64], .leaf (.int .i64)] (.one (.leaf (.int .i64))) fun x h => spileref50_duty x.1 x.2 h
theorem spileref50_duty.ok : EntryOK Tryd.prog 52 (spileref50_duty.e) := mkX_ok (spileref50_duty.tbok) Tryd.mixed Tryd.func52 (by kernel_rfl) (spileref50_duty.eq)
noncomputable def spileref50_dutyP (a0 : (Int × Int × (List (Int × Int × Int × Int × Int × Int × Int × Int)) × Int)) (a1 : Int) : Option (Int) := (spileref50_duty (a0.1, a0.2.1, rowSV false [.int .i64, .int .i64, .int .i64, .int .i64, .int .i64, .int .i64, .int .i64, .int .i64] a0.2.2.1, a0.2.2.2) a1 H.empty).bind fun p => rdRes false p.2 (.one (.leaf (.int .i64))) (Res.un (.one (.leaf (.int .i64))) p.1)
theorem spileref50_dutyP.eq : ∀ x : TT [.agg [.int .i64, .int .i64, .row [.int .i64, .int .i64, .int .i64, .int .i64, .int .i64, .int .i64, .int .i64, .int .i64], .int .i64], .leaf (.int .i64)], ((evalFn Tryd.prog (spileref50_duty.tb) spileref50_duty.A Tryd.f52 (.one (.leaf (.int .i64))) (TT.lo false [.agg [.int .i64, .int .i64, .row [.int .i64, .int .i64, .int .i64, .int .i64, .int .i64, .int .i64, .int .i64, .int .i64], .int .i64], .leaf (.int .i64)] x) H.empty).bind fun p => rdRes false p.2 (.one (.leaf (.int .i64))) (Res.un (.one (.leaf (.int .i64))) p.1)) = spileref50_dutyP x.1 x.2 := by
  intro x
  rw [show TT.lo false [.agg [.int .i64, .int .i64, .row [.int .i64, .int .i64, .int .i64, .int .i64, .int .i64, .int .i64, .int .i64, .int .i64], .int .i64], .leaf (.int .i64)] x = TT.un [.agg [.int .i64, .int .i64, .slice, .int .i64], .leaf (.int .i64)] ((x.1.1, x.1.2.1, rowSV false [.int .i64, .int .i64, .int .i64, .int .i64, .int .i64, .int .i64, .int .i64, .int .i64] x.1.2.2.1, x.1.2.2.2), x.2) from rfl, spileref50_duty.eq]
  rfl
noncomputable def spileref50_dutyP.e : Entry := mkP [.agg [.int .i64, .int .i64, .row [.int .i64, .int .i64, .int .i64, .int .i64, .int .i64, .int .i64, .int .i64, .int .i64], .int .i64], .leaf (.int .i64)] (.one (.leaf (.int .i64))) fun x => spileref50_dutyP x.1 x.2
theorem spileref50_dutyP.ok : EntryOK Tryd.prog 52 (spileref50_dutyP.e) := mkP_ok (spileref50_duty.tbok) Tryd.mixed Tryd.func52 (by kernel_rfl) spileref50_dutyP.eq
end Go.Proofs.YtedhmdocimkldaaDoor
