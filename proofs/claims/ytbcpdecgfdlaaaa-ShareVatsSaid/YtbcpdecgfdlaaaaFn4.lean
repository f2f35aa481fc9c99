/- The functions of the program as Lean functions, each with the equation by which the evaluator is that function. Written by a program of this session (evdrive.py). Conditions: none. -/
import Derived.Test.YtbcpdecgfdlaaaaProg
import Derived.Test.YtbcpdecgfdlaaaaEvSpec
import Derived.Test.YtbcpdecgfdlaaaaFn3
namespace Go.Proofs.Ytbcpdecgfdlaaaa
open Go Go.Proofs.Ytbcpdecgfdlaaaa.Ev
set_option maxRecDepth 100000
set_option linter.unusedVariables false
/-! ### spile/spileref22.Alcohol: function 38 -/
noncomputable def spileref22_Alcohol.tb : Table := tab [] [] Table.nil
theorem spileref22_Alcohol.tbok : TabOK Try.prog (spileref22_Alcohol.tb) := TabOK.tab (TabOK.nil Try.prog) (all_nil _) (all_nil _)
noncomputable def spileref22_Alcohol.loop1 (a0 : SV) : (Int × Int) × H → Option (Stp ((Int × Int) × H) (Flow (Int) (Int) × H)) := fun ((y1, y2), h3) =>
(bif (decide (y2 < ((a0.len : Nat) : Int))) then (guardO (0 ≤ y2 ∧ y2 < ((a0.len : Nat) : Int)) (guardO (V.nn ((V.add a0.a (Int.toNat y2 * 2)) : V) = true) ((rdT (.leaf (.int .i64)) h3 (V.add (V.add a0.a (Int.toNat y2 * 2)) 1)).bind fun x4 =>
(some (.more (((IntKind.wrap .i64 (y1 + x4)), (IntKind.wrap .i64 (y2 + 1))), h3)))))) else (some (.done (.ex0 y1, h3))))
noncomputable def spileref22_Alcohol (a0 : SV) (h : H) : Option ((Int) × H) :=
((iter FUEL (spileref22_Alcohol.loop1 a0) ((0, 0), h)).bind fun (fl6, h5) => match fl6 with
| .next _ => none
| .ret rr7 => (some (rr7, h5))
| .ex0 y8 =>
(some (y8, h5))
| .ex1 _ => none)
def spileref22_Alcohol.A : Ann := { lits := [], conds := [], loops := [(3, [3, 4], [.leaf (.int .i64), .leaf (.int .i64)], [3], [.leaf (.int .i64)], some 0, none)], regs := [] }
theorem spileref22_Alcohol.eq : ∀ (x : TT [.leaf .slice]) (h : H), evalFn Try.prog (spileref22_Alcohol.tb) spileref22_Alcohol.A Try.f38 (.one (.leaf (.int .i64))) (TT.un [.leaf .slice] x) h = spileref22_Alcohol x h := by
  intro x h
  kernel_rfl
noncomputable def spileref22_Alcohol.e : Entry := mkX [.leaf .slice] (.one (.leaf (.int .i64))) fun x h => spileref22_Alcohol x h
theorem spileref22_Alcohol.ok : EntryOK Try.prog 38 (spileref22_Alcohol.e) := mkX_ok (spileref22_Alcohol.tbok) Try.mixed Try.func38 (by kernel_rfl) (spileref22_Alcohol.eq)
noncomputable def spileref22_AlcoholP (a0 : (List (Int × Int))) : Option (Int) := (spileref22_Alcohol (rowSV false [.int .i64, .int .i64] a0) H.empty).bind fun p => rdRes false p.2 (.one (.leaf (.int .i64))) (Res.un (.one (.leaf (.int .i64))) p.1)
theorem spileref22_AlcoholP.eq : ∀ x : TT [.leaf (.row [.int .i64, .int .i64])], ((evalFn Try.prog (spileref22_Alcohol.tb) spileref22_Alcohol.A Try.f38 (.one (.leaf (.int .i64))) (TT.lo false [.leaf (.row [.int .i64, .int .i64])] x) H.empty).bind fun p => rdRes false p.2 (.one (.leaf (.int .i64))) (Res.un (.one (.leaf (.int .i64))) p.1)) = spileref22_AlcoholP x := by
  intro x
  rw [show TT.lo false [.leaf (.row [.int .i64, .int .i64])] x = TT.un [.leaf .slice] ((rowSV false [.int .i64, .int .i64] x)) from rfl, spileref22_Alcohol.eq]
  rfl
noncomputable def spileref22_AlcoholP.e : Entry := mkP [.leaf (.row [.int .i64, .int .i64])] (.one (.leaf (.int .i64))) fun x => spileref22_AlcoholP x
theorem spileref22_AlcoholP.ok : EntryOK Try.prog 38 (spileref22_AlcoholP.e) := mkP_ok (spileref22_Alcohol.tbok) Try.mixed Try.func38 (by kernel_rfl) spileref22_AlcoholP.eq

/-! ### spile/spileref23.Check: function 19 -/
noncomputable def spileref23_Check.tb : Table := tab [(38, spileref22_AlcoholP.e)] [] Table.nil
theorem spileref23_Check.tbok : TabOK Try.prog (spileref23_Check.tb) := TabOK.tab (TabOK.nil Try.prog) (all_cons spileref22_AlcoholP.ok (all_nil _)) (all_nil _)
noncomputable def spileref23_Check.loop1 (a0 : SV) : (Int) × H → Option (Stp ((Int) × H) (Flow (Unit) (Int) × H)) := fun (y1, h2) =>
(bif (decide (y1 < ((a0.len : Nat) : Int))) then (((guardO (0 ≤ y1 ∧ y1 < ((a0.len : Nat) : Int)) (guardO (V.nn ((V.add a0.a (Int.toNat y1 * 2)) : V) = true) ((rdT (.leaf (.int .i64)) h2 (V.add (V.add a0.a (Int.toNat y1 * 2)) 0)).bind fun x3 =>
(bif !(decide (x3 < 1)) then (guardO (0 ≤ y1 ∧ y1 < ((a0.len : Nat) : Int)) (guardO (V.nn ((V.add a0.a (Int.toNat y1 * 2)) : V) = true) ((rdT (.leaf (.int .i64)) h2 (V.add (V.add a0.a (Int.toNat y1 * 2)) 0)).bind fun x4 =>
(bif !(decide ((1073741824 : Int) < x4)) then (guardO (0 ≤ y1 ∧ y1 < ((a0.len : Nat) : Int)) (guardO (V.nn ((V.add a0.a (Int.toNat y1 * 2)) : V) = true) ((rdT (.leaf (.int .i64)) h2 (V.add (V.add a0.a (Int.toNat y1 * 2)) 1)).bind fun x5 =>
(bif !(decide (x5 < 1)) then (guardO (0 ≤ y1 ∧ y1 < ((a0.len : Nat) : Int)) (guardO (V.nn ((V.add a0.a (Int.toNat y1 * 2)) : V) = true) ((rdT (.leaf (.int .i64)) h2 (V.add (V.add a0.a (Int.toNat y1 * 2)) 1)).bind fun x6 =>
(some ((decide ((10737418240000 : Int) < x6)), h2))))) else (some (true, h2)))))) else (some (true, h2)))))) else (some (true, h2))))))).bind fun (y7, h8) =>
(bif y7 then (some (.done (.ret 2, h8))) else (((let h9 : H := H.reserve h8 0
(bif (decide ((0 : Int) < y1)) then (guardO (0 ≤ y1 ∧ y1 < ((a0.len : Nat) : Int)) (guardO (V.nn ((V.add a0.a (Int.toNat y1 * 2)) : V) = true) ((rdT (.leaf (.int .i64)) h9 (V.add (V.add a0.a (Int.toNat y1 * 2)) 0)).bind fun x10 =>
(guardO (0 ≤ (IntKind.wrap .i64 (y1 - 1)) ∧ (IntKind.wrap .i64 (y1 - 1)) < ((a0.len : Nat) : Int)) (guardO (V.nn ((V.add a0.a (Int.toNat (IntKind.wrap .i64 (y1 - 1)) * 2)) : V) = true) ((rdT (.leaf (.int .i64)) h9 (V.add (V.add a0.a (Int.toNat (IntKind.wrap .i64 (y1 - 1)) * 2)) 0)).bind fun x11 =>
(some ((decide (x10 ≤ x11)), h9)))))))) else (some (false, h9))))).bind fun (y12, h13) =>
(bif y12 then (some (.done (.ret 5, h13))) else (some (.more ((IntKind.wrap .i64 (y1 + 1)), h13))))))) else (some (.done (.ex0 (), h2))))
noncomputable def spileref23_Check (a0 : SV) (h : H) : Option ((Int) × H) :=
(bif (decide ((32 : Int) < ((a0.len : Nat) : Int))) then (some (8, h)) else ((iter FUEL (spileref23_Check.loop1 a0) (0, h)).bind fun (fl15, h14) => match fl15 with
| .next _ => none
| .ret rr16 => (some (rr16, h14))
| .ex0 _ =>
((rdRow true h14 [.int .i64, .int .i64] a0).bind fun s18 =>
((spileref22_AlcoholP s18).bind fun r17 =>
(bif (decide ((10737418240000 : Int) < r17)) then (some (15, h14)) else (some (0, h14)))))
| .ex1 _ => none))
def spileref23_Check.A : Ann := { lits := [], conds := [], loops := [(4, [3], [.leaf (.int .i64)], [], [], some 0, none)], regs := [(6, [42], [.leaf .bool]), (8, [58], [.leaf .bool])] }
theorem spileref23_Check.eq : ∀ (x : TT [.leaf .slice]) (h : H), evalFn Try.prog (spileref23_Check.tb) spileref23_Check.A Try.f19 (.one (.leaf (.int .i64))) (TT.un [.leaf .slice] x) h = spileref23_Check x h := by
  intro x h
  kernel_rfl
noncomputable def spileref23_Check.e : Entry := mkX [.leaf .slice] (.one (.leaf (.int .i64))) fun x h => spileref23_Check x h
theorem spileref23_Check.ok : EntryOK Try.prog 19 (spileref23_Check.e) := mkX_ok (spileref23_Check.tbok) Try.mixed Try.func19 (by kernel_rfl) (spileref23_Check.eq)
noncomputable def spileref23_CheckP (a0 : (List (Int × Int))) : Option (Int) := (spileref23_Check (rowSV false [.int .i64, .int .i64] a0) H.empty).bind fun p => rdRes false p.2 (.one (.leaf (.int .i64))) (Res.un (.one (.leaf (.int .i64))) p.1)
theorem spileref23_CheckP.eq : ∀ x : TT [.leaf (.row [.int .i64, .int .i64])], ((evalFn Try.prog (spileref23_Check.tb) spileref23_Check.A Try.f19 (.one (.leaf (.int .i64))) (TT.lo false [.leaf (.row [.int .i64, .int .i64])] x) H.empty).bind fun p => rdRes false p.2 (.one (.leaf (.int .i64))) (Res.un (.one (.leaf (.int .i64))) p.1)) = spileref23_CheckP x := by
  intro x
  rw [show TT.lo false [.leaf (.row [.int .i64, .int .i64])] x = TT.un [.leaf .slice] ((rowSV false [.int .i64, .int .i64] x)) from rfl, spileref23_Check.eq]
  rfl
noncomputable def spileref23_CheckP.e : Entry := mkP [.leaf (.row [.int .i64, .int .i64])] (.one (.leaf (.int .i64))) fun x => spileref23_CheckP x
theorem spileref23_CheckP.ok : EntryOK Try.prog 19 (spileref23_CheckP.e) := mkP_ok (spileref23_Check.tbok) Try.mixed Try.func19 (by kernel_rfl) spileref23_CheckP.eq

/-! ### spile/spileref23.Sum: function 13 -/
noncomputable def spileref23_Sum.tb : Table := tab [(19, spileref23_CheckP.e), (38, spileref22_AlcoholP.e)] [] Table.nil
theorem spileref23_Sum.tbok : TabOK Try.prog (spileref23_Sum.tb) := TabOK.tab (TabOK.nil Try.prog) (all_cons spileref23_CheckP.ok (all_cons spileref22_AlcoholP.ok (all_nil _))) (all_nil _)
noncomputable def spileref23_Sum (a0 : SV) (h : H) : Option ((Int × Int) × H) :=
((rdRow true h [.int .i64, .int .i64] a0).bind fun s2 =>
((spileref23_CheckP s2).bind fun r1 =>
(bif (!(decide (r1 = 0))) then (some ((0, 1), h)) else ((rdRow true h [.int .i64, .int .i64] a0).bind fun s4 =>
((spileref22_AlcoholP s4).bind fun r3 =>
(some ((r3, 0), h)))))))
def spileref23_Sum.A : Ann := { lits := [], conds := [], loops := [], regs := [] }
theorem spileref23_Sum.eq : ∀ (x : TT [.leaf .slice]) (h : H), evalFn Try.prog (spileref23_Sum.tb) spileref23_Sum.A Try.f13 (.many [.leaf (.int .i64), .leaf (.int .i64)]) (TT.un [.leaf .slice] x) h = spileref23_Sum x h := by
  intro x h
  kernel_rfl
noncomputable def spileref23_Sum.e : Entry := mkX [.leaf .slice] (.many [.leaf (.int .i64), .leaf (.int .i64)]) fun x h => spileref23_Sum x h
theorem spileref23_Sum.ok : EntryOK Try.prog 13 (spileref23_Sum.e) := mkX_ok (spileref23_Sum.tbok) Try.mixed Try.func13 (by kernel_rfl) (spileref23_Sum.eq)
noncomputable def spileref23_SumP (a0 : (List (Int × Int))) : Option (Int × Int) := (spileref23_Sum (rowSV false [.int .i64, .int .i64] a0) H.empty).bind fun p => rdRes false p.2 (.many [.leaf (.int .i64), .leaf (.int .i64)]) (Res.un (.many [.leaf (.int .i64), .leaf (.int .i64)]) p.1)
theorem spileref23_SumP.eq : ∀ x : TT [.leaf (.row [.int .i64, .int .i64])], ((evalFn Try.prog (spileref23_Sum.tb) spileref23_Sum.A Try.f13 (.many [.leaf (.int .i64), .leaf (.int .i64)]) (TT.lo false [.leaf (.row [.int .i64, .int .i64])] x) H.empty).bind fun p => rdRes false p.2 (.many [.leaf (.int .i64), .leaf (.int .i64)]) (Res.un (.many [.leaf (.int .i64), .leaf (.int .i64)]) p.1)) = spileref23_SumP x := by
  intro x
  rw [show TT.lo false [.leaf (.row [.int .i64, .int .i64])] x = TT.un [.leaf .slice] ((rowSV false [.int .i64, .int .i64] x)) from rfl, spileref23_Sum.eq]
  rfl
noncomputable def spileref23_SumP.e : Entry := mkP [.leaf (.row [.int .i64, .int .i64])] (.many [.leaf (.int .i64), .leaf (.int .i64)]) fun x => spileref23_SumP x
theorem spileref23_SumP.ok : EntryOK Try.prog 13 (spileref23_SumP.e) := mkP_ok (spileref23_Sum.tbok) Try.mixed Try.func13 (by kernel_rfl) spileref23_SumP.eq

/-! ### spile/spileref23.amounts: function 44 -/
noncomputable def spileref23_amounts.tb : Table := tab [] [] Table.nil
theorem spileref23_amounts.tbok : TabOK Try.prog (spileref23_amounts.tb) := TabOK.tab (TabOK.nil Try.prog) (all_nil _) (all_nil _)
noncomputable def spileref23_amounts.loop1 (a0 : SV) : (SV × Int) × H → Option (Stp ((SV × Int) × H) (Flow (SV) (SV) × H)) := fun ((y1, y2), h3) =>
(bif (decide (y2 < ((a0.len : Nat) : Int))) then (guardO (0 ≤ y2 ∧ y2 < ((a0.len : Nat) : Int)) (guardO (V.nn ((V.add a0.a (Int.toNat y2 * 2)) : V) = true) ((rdT (.leaf (.int .i64)) h3 (V.add (V.add a0.a (Int.toNat y2 * 2)) 1)).bind fun x4 =>
((appendS h3 none 1 8 y1 [.int .i64 x4] 1).bind fun (s7, h6) =>
(some (.more ((s7, (IntKind.wrap .i64 (y2 + 1))), h6))))))) else (some (.done (.ex0 y1, h3))))
noncomputable def spileref23_amounts (a0 : SV) (h : H) : Option ((SV) × H) :=
((iter FUEL (spileref23_amounts.loop1 a0) ((⟨.lp true ([]) 0, 0, 0, false⟩, 0), h)).bind fun (fl10, h9) => match fl10 with
| .next _ => none
| .ret rr11 => (some (rr11, h9))
| .ex0 y12 =>
(some (y12, h9))
| .ex1 _ => none)
def spileref23_amounts.A : Ann := { lits := [], conds := [], loops := [(3, [3, 4], [.leaf .slice, .leaf (.int .i64)], [3], [.leaf .slice], some 0, none)], regs := [] }
theorem spileref23_amounts.eq : ∀ (x : TT [.leaf .slice]) (h : H), evalFn Try.prog (spileref23_amounts.tb) spileref23_amounts.A Try.f44 (.one (.leaf .slice)) (TT.un [.leaf .slice] x) h = spileref23_amounts x h := by
  intro x h
  kernel_rfl
noncomputable def spileref23_amounts.e : Entry := mkX [.leaf .slice] (.one (.leaf .slice)) fun x h => spileref23_amounts x h
theorem spileref23_amounts.ok : EntryOK Try.prog 44 (spileref23_amounts.e) := mkX_ok (spileref23_amounts.tbok) Try.mixed Try.func44 (by kernel_rfl) (spileref23_amounts.eq)
noncomputable def spileref23_amountsP (a0 : (List (Int × Int))) : Option ((List (Int))) := (spileref23_amounts (rowSV false [.int .i64, .int .i64] a0) H.empty).bind fun p => rdRes false p.2 (.one (.leaf (.row [.int .i64]))) (Res.un (.one (.leaf .slice)) p.1)
theorem spileref23_amountsP.eq : ∀ x : TT [.leaf (.row [.int .i64, .int .i64])], ((evalFn Try.prog (spileref23_amounts.tb) spileref23_amounts.A Try.f44 (.one (.leaf .slice)) (TT.lo false [.leaf (.row [.int .i64, .int .i64])] x) H.empty).bind fun p => rdRes false p.2 (.one (.leaf (.row [.int .i64]))) (Res.un (.one (.leaf .slice)) p.1)) = spileref23_amountsP x := by
  intro x
  rw [show TT.lo false [.leaf (.row [.int .i64, .int .i64])] x = TT.un [.leaf .slice] ((rowSV false [.int .i64, .int .i64] x)) from rfl, spileref23_amounts.eq]
  rfl
noncomputable def spileref23_amountsP.e : Entry := mkP [.leaf (.row [.int .i64, .int .i64])] (.one (.leaf (.row [.int .i64]))) fun x => spileref23_amountsP x
theorem spileref23_amountsP.ok : EntryOK Try.prog 44 (spileref23_amountsP.e) := mkP_ok (spileref23_amounts.tbok) Try.mixed Try.func44 (by kernel_rfl) spileref23_amountsP.eq

/-! ### spile/spileref01.Is: function 85 -/
noncomputable def spileref01_Is.tb : Table := tab [] [] Table.nil
theorem spileref01_Is.tbok : TabOK Try.prog (spileref01_Is.tb) := TabOK.tab (TabOK.nil Try.prog) (all_nil _) (all_nil _)
noncomputable def spileref01_Is (a0 : Int) (h : H) : Option ((Bool) × H) :=
(((bif (decide ((0 : Int) ≤ a0)) then (some ((decide (a0 ≤ 128849018880000)), h)) else (some (false, h)))).bind fun (y1, h2) =>
(some (y1, h2)))
def spileref01_Is.A : Ann := { lits := [], conds := [], loops := [], regs := [(1, [2], [.leaf .bool])] }
theorem spileref01_Is.eq : ∀ (x : TT [.leaf (.int .i64)]) (h : H), evalFn Try.prog (spileref01_Is.tb) spileref01_Is.A Try.f85 (.one (.leaf .bool)) (TT.un [.leaf (.int .i64)] x) h = spileref01_Is x h := by
  intro x h
  kernel_rfl
noncomputable def spileref01_Is.e : Entry := mkX [.leaf (.int .i64)] (.one (.leaf .bool)) fun x h => spileref01_Is x h
theorem spileref01_Is.ok : EntryOK Try.prog 85 (spileref01_Is.e) := mkX_ok (spileref01_Is.tbok) Try.mixed Try.func85 (by kernel_rfl) (spileref01_Is.eq)
noncomputable def spileref01_IsP (a0 : Int) : Option (Bool) := (spileref01_Is a0 H.empty).bind fun p => rdRes false p.2 (.one (.leaf .bool)) (Res.un (.one (.leaf .bool)) p.1)
theorem spileref01_IsP.eq : ∀ x : TT [.leaf (.int .i64)], ((evalFn Try.prog (spileref01_Is.tb) spileref01_Is.A Try.f85 (.one (.leaf .bool)) (TT.lo false [.leaf (.int .i64)] x) H.empty).bind fun p => rdRes false p.2 (.one (.leaf .bool)) (Res.un (.one (.leaf .bool)) p.1)) = spileref01_IsP x := by
  intro x
  rw [show TT.lo false [.leaf (.int .i64)] x = TT.un [.leaf (.int .i64)] (x) from rfl, spileref01_Is.eq]
  rfl
noncomputable def spileref01_IsP.e : Entry := mkP [.leaf (.int .i64)] (.one (.leaf .bool)) fun x => spileref01_IsP x
theorem spileref01_IsP.ok : EntryOK Try.prog 85 (spileref01_IsP.e) := mkP_ok (spileref01_Is.tbok) Try.mixed Try.func85 (by kernel_rfl) spileref01_IsP.eq

/-! ### spile/spileref01.weigh: function 69 -/
noncomputable def spileref01_weigh.tb : Table := tab [(85, spileref01_IsP.e)] [] Table.nil
theorem spileref01_weigh.tbok : TabOK Try.prog (spileref01_weigh.tb) := TabOK.tab (TabOK.nil Try.prog) (all_cons spileref01_IsP.ok (all_nil _)) (all_nil _)
noncomputable def spileref01_weigh.loop1 (a1 : SV) : (Int × Int) × H → Option (Stp ((Int × Int) × H) (Flow (Int) (Int × Int) × H)) := fun ((y2, y3), h4) =>
(bif (decide (y3 < ((a1.len : Nat) : Int))) then (((guardO (0 ≤ y3 ∧ y3 < ((a1.len : Nat) : Int)) ((rdT (.leaf (.int .i64)) h4 (V.add a1.a (Int.toNat y3 * 1))).bind fun x5 =>
((spileref01_IsP x5).bind fun r6 =>
(bif !(!r6) then (guardO (0 ≤ y3 ∧ y3 < ((a1.len : Nat) : Int)) ((rdT (.leaf (.int .i64)) h4 (V.add a1.a (Int.toNat y3 * 1))).bind fun x7 =>
((spileref01_IsP (IntKind.wrap .i64 (y2 + x7))).bind fun r8 =>
(some ((!r8), h4))))) else (some (true, h4))))))).bind fun (y9, h10) =>
(bif y9 then (some (.done (.ret (0, 2), h10))) else (guardO (0 ≤ y3 ∧ y3 < ((a1.len : Nat) : Int)) ((rdT (.leaf (.int .i64)) h10 (V.add a1.a (Int.toNat y3 * 1))).bind fun x11 =>
(some (.more (((IntKind.wrap .i64 (y2 + x11)), (IntKind.wrap .i64 (y3 + 1))), h10))))))) else (some (.done (.ex0 y2, h4))))
noncomputable def spileref01_weigh (a0 : Int) (a1 : SV) (h : H) : Option ((Int × Int) × H) :=
((spileref01_IsP a0).bind fun r1 =>
(bif (!r1) then (some ((0, 2), h)) else (bif (decide (((a1.len : Nat) : Int) = 0)) then (some ((0, 9), h)) else (bif (decide ((64 : Int) < ((a1.len : Nat) : Int))) then (some ((0, 8), h)) else ((iter FUEL (spileref01_weigh.loop1 a1) ((0, 0), h)).bind fun (fl13, h12) => match fl13 with
| .next _ => none
| .ret rr14 => (some (rr14, h12))
| .ex0 y15 =>
(bif (decide (y15 = 0)) then (some ((0, 16), h12)) else (some ((y15, 0), h12)))
| .ex1 _ => none)))))
def spileref01_weigh.A : Ann := { lits := [], conds := [], loops := [(9, [6, 7], [.leaf (.int .i64), .leaf (.int .i64)], [6], [.leaf (.int .i64)], some 0, none)], regs := [(11, [38], [.leaf .bool])] }
theorem spileref01_weigh.eq : ∀ (x : TT [.leaf (.int .i64), .leaf .slice]) (h : H), evalFn Try.prog (spileref01_weigh.tb) spileref01_weigh.A Try.f69 (.many [.leaf (.int .i64), .leaf (.int .i64)]) (TT.un [.leaf (.int .i64), .leaf .slice] x) h = spileref01_weigh x.1 x.2 h := by
  intro x h
  kernel_rfl
noncomputable def spileref01_weigh.e : Entry := mkX [.leaf (.int .i64), .leaf .slice] (.many [.leaf (.int .i64), .leaf (.int .i64)]) fun x h => spileref01_weigh x.1 x.2 h
theorem spileref01_weigh.ok : EntryOK Try.prog 69 (spileref01_weigh.e) := mkX_ok (spileref01_weigh.tbok) Try.mixed Try.func69 (by kernel_rfl) (spileref01_weigh.eq)
noncomputable def spileref01_weighP (a0 : Int) (a1 : (List (Int))) : Option (Int × Int) := (spileref01_weigh a0 (rowSV false [.int .i64] a1) H.empty).bind fun p => rdRes false p.2 (.many [.leaf (.int .i64), .leaf (.int .i64)]) (Res.un (.many [.leaf (.int .i64), .leaf (.int .i64)]) p.1)
theorem spileref01_weighP.eq : ∀ x : TT [.leaf (.int .i64), .leaf (.row [.int .i64])], ((evalFn Try.prog (spileref01_weigh.tb) spileref01_weigh.A Try.f69 (.many [.leaf (.int .i64), .leaf (.int .i64)]) (TT.lo false [.leaf (.int .i64), .leaf (.row [.int .i64])] x) H.empty).bind fun p => rdRes false p.2 (.many [.leaf (.int .i64), .leaf (.int .i64)]) (Res.un (.many [.leaf (.int .i64), .leaf (.int .i64)]) p.1)) = spileref01_weighP x.1 x.2 := by
  intro x
  rw [show TT.lo false [.leaf (.int .i64), .leaf (.row [.int .i64])] x = TT.un [.leaf (.int .i64), .leaf .slice] (x.1, (rowSV false [.int .i64] x.2)) from rfl, spileref01_weigh.eq]
  rfl
noncomputable def spileref01_weighP.e : Entry := mkP [.leaf (.int .i64), .leaf (.row [.int .i64])] (.many [.leaf (.int .i64), .leaf (.int .i64)]) fun x => spileref01_weighP x.1 x.2
theorem spileref01_weighP.ok : EntryOK Try.prog 69 (spileref01_weighP.e) := mkP_ok (spileref01_weigh.tbok) Try.mixed Try.func69 (by kernel_rfl) spileref01_weighP.eq

/-! ### spile/spileref01.Product: function 97 -/
noncomputable def spileref01_Product.tb : Table := tab [] [] Table.nil
theorem spileref01_Product.tbok : TabOK Try.prog (spileref01_Product.tb) := TabOK.tab (TabOK.nil Try.prog) (all_nil _) (all_nil _)
noncomputable def spileref01_Product (a0 : Int) (a1 : Int) (h : H) : Option (((Int × Int)) × H) :=
(let h1 : H := H.new h [.int .u64 0, .int .u64 0] 2
((H.wrs h1 (.hp h.next 2 0) [.int .u64 (IntKind.wrap .u64 ((IntKind.wrap .u64 ((IntKind.wrap .u64 ((Int.fdiv (IntKind.wrap .u64 (a0)) (2 ^ (min (Int.toNat 31) (IntKind.bits .u64)))) * (Int.fdiv (IntKind.wrap .u64 (a1)) (2 ^ (min (Int.toNat 31) (IntKind.bits .u64)))))) + (Int.fdiv (IntKind.wrap .u64 ((IntKind.wrap .u64 ((bitsI .and .u64 (IntKind.wrap .u64 (a0)) 2147483647) * (Int.fdiv (IntKind.wrap .u64 (a1)) (2 ^ (min (Int.toNat 31) (IntKind.bits .u64)))))) + (Int.fdiv (IntKind.wrap .u64 ((bitsI .and .u64 (IntKind.wrap .u64 (a0)) 2147483647) * (bitsI .and .u64 (IntKind.wrap .u64 (a1)) 2147483647))) (2 ^ (min (Int.toNat 31) (IntKind.bits .u64)))))) (2 ^ (min (Int.toNat 31) (IntKind.bits .u64)))))) + (Int.fdiv (IntKind.wrap .u64 ((IntKind.wrap .u64 ((Int.fdiv (IntKind.wrap .u64 (a0)) (2 ^ (min (Int.toNat 31) (IntKind.bits .u64)))) * (bitsI .and .u64 (IntKind.wrap .u64 (a1)) 2147483647))) + (bitsI .and .u64 (IntKind.wrap .u64 ((IntKind.wrap .u64 ((bitsI .and .u64 (IntKind.wrap .u64 (a0)) 2147483647) * (Int.fdiv (IntKind.wrap .u64 (a1)) (2 ^ (min (Int.toNat 31) (IntKind.bits .u64)))))) + (Int.fdiv (IntKind.wrap .u64 ((bitsI .and .u64 (IntKind.wrap .u64 (a0)) 2147483647) * (bitsI .and .u64 (IntKind.wrap .u64 (a1)) 2147483647))) (2 ^ (min (Int.toNat 31) (IntKind.bits .u64)))))) 2147483647))) (2 ^ (min (Int.toNat 31) (IntKind.bits .u64)))))), .int .u64 (bitsI .or .u64 (IntKind.wrap .u64 ((bitsI .and .u64 (IntKind.wrap .u64 ((IntKind.wrap .u64 ((Int.fdiv (IntKind.wrap .u64 (a0)) (2 ^ (min (Int.toNat 31) (IntKind.bits .u64)))) * (bitsI .and .u64 (IntKind.wrap .u64 (a1)) 2147483647))) + (bitsI .and .u64 (IntKind.wrap .u64 ((IntKind.wrap .u64 ((bitsI .and .u64 (IntKind.wrap .u64 (a0)) 2147483647) * (Int.fdiv (IntKind.wrap .u64 (a1)) (2 ^ (min (Int.toNat 31) (IntKind.bits .u64)))))) + (Int.fdiv (IntKind.wrap .u64 ((bitsI .and .u64 (IntKind.wrap .u64 (a0)) 2147483647) * (bitsI .and .u64 (IntKind.wrap .u64 (a1)) 2147483647))) (2 ^ (min (Int.toNat 31) (IntKind.bits .u64)))))) 2147483647))) 2147483647) * 2 ^ (min (Int.toNat 31) (IntKind.bits .u64)))) (bitsI .and .u64 (IntKind.wrap .u64 ((bitsI .and .u64 (IntKind.wrap .u64 (a0)) 2147483647) * (bitsI .and .u64 (IntKind.wrap .u64 (a1)) 2147483647))) 2147483647))]).bind fun h2 =>
((rdT (.agg [.int .u64, .int .u64]) h2 (.hp h.next 2 0 : V)).bind fun (x3_0, x3_1) =>
(some ((x3_0, x3_1), h2)))))
def spileref01_Product.A : Ann := { lits := [], conds := [], loops := [], regs := [] }
theorem spileref01_Product.eq : ∀ (x : TT [.leaf (.int .i64), .leaf (.int .i64)]) (h : H), evalFn Try.prog (spileref01_Product.tb) spileref01_Product.A Try.f97 (.one (.agg [.int .u64, .int .u64])) (TT.un [.leaf (.int .i64), .leaf (.int .i64)] x) h = spileref01_Product x.1 x.2 h := by
  intro x h
  kernel_rfl
noncomputable def spileref01_Product.e : Entry := mkX [.leaf (.int .i64), .leaf (.int .i64)] (.one (.agg [.int .u64, .int .u64])) fun x h => spileref01_Product x.1 x.2 h
theorem spileref01_Product.ok : EntryOK Try.prog 97 (spileref01_Product.e) := mkX_ok (spileref01_Product.tbok) Try.mixed Try.func97 (by kernel_rfl) (spileref01_Product.eq)
noncomputable def spileref01_ProductP (a0 : Int) (a1 : Int) : Option ((Int × Int)) := (spileref01_Product a0 a1 H.empty).bind fun p => rdRes false p.2 (.one (.agg [.int .u64, .int .u64])) (Res.un (.one (.agg [.int .u64, .int .u64])) p.1)
theorem spileref01_ProductP.eq : ∀ x : TT [.leaf (.int .i64), .leaf (.int .i64)], ((evalFn Try.prog (spileref01_Product.tb) spileref01_Product.A Try.f97 (.one (.agg [.int .u64, .int .u64])) (TT.lo false [.leaf (.int .i64), .leaf (.int .i64)] x) H.empty).bind fun p => rdRes false p.2 (.one (.agg [.int .u64, .int .u64])) (Res.un (.one (.agg [.int .u64, .int .u64])) p.1)) = spileref01_ProductP x.1 x.2 := by
  intro x
  rw [show TT.lo false [.leaf (.int .i64), .leaf (.int .i64)] x = TT.un [.leaf (.int .i64), .leaf (.int .i64)] (x.1, x.2) from rfl, spileref01_Product.eq]
  rfl
noncomputable def spileref01_ProductP.e : Entry := mkP [.leaf (.int .i64), .leaf (.int .i64)] (.one (.agg [.int .u64, .int .u64])) fun x => spileref01_ProductP x.1 x.2
theorem spileref01_ProductP.ok : EntryOK Try.prog 97 (spileref01_ProductP.e) := mkP_ok (spileref01_Product.tbok) Try.mixed Try.func97 (by kernel_rfl) spileref01_ProductP.eq

/-! ### spile/spileref01.Less: function 98 -/
noncomputable def spileref01_Less.tb : Table := tab [] [] Table.nil
theorem spileref01_Less.tbok : TabOK Try.prog (spileref01_Less.tb) := TabOK.tab (TabOK.nil Try.prog) (all_nil _) (all_nil _)
noncomputable def spileref01_Less (a0 : (Int × Int)) (a1 : (Int × Int)) (h : H) : Option ((Bool) × H) :=
(match a0 with
| (a0_0, a0_1) =>
(match a1 with
| (a1_0, a1_1) =>
(let h1 : H := H.new h [.int .u64 a0_0, .int .u64 a0_1] 2
(let h2 : H := H.new h1 [.int .u64 a1_0, .int .u64 a1_1] 2
((((rdT (.leaf (.int .u64)) h2 (.hp h.next 2 0)).bind fun x3 =>
((rdT (.leaf (.int .u64)) h2 (.hp h1.next 2 0)).bind fun x4 =>
(bif !(decide (x3 < x4)) then ((rdT (.leaf (.int .u64)) h2 (.hp h.next 2 0)).bind fun x5 =>
((rdT (.leaf (.int .u64)) h2 (.hp h1.next 2 0)).bind fun x6 =>
(bif (decide (x5 = x6)) then ((rdT (.leaf (.int .u64)) h2 (.hp h.next 2 1)).bind fun x7 =>
((rdT (.leaf (.int .u64)) h2 (.hp h1.next 2 1)).bind fun x8 =>
(some ((decide (x7 < x8)), h2)))) else (some (false, h2))))) else (some (true, h2)))))).bind fun (y9, h10) =>
(some (y9, h10)))))))
def spileref01_Less.A : Ann := { lits := [], conds := [], loops := [], regs := [(1, [4], [.leaf .bool])] }
theorem spileref01_Less.eq : ∀ (x : TT [.agg [.int .u64, .int .u64], .agg [.int .u64, .int .u64]]) (h : H), evalFn Try.prog (spileref01_Less.tb) spileref01_Less.A Try.f98 (.one (.leaf .bool)) (TT.un [.agg [.int .u64, .int .u64], .agg [.int .u64, .int .u64]] x) h = spileref01_Less x.1 x.2 h := by
  intro x h
  kernel_rfl
noncomputable def spileref01_Less.e : Entry := mkX [.agg [.int .u64, .int .u64], .agg [.int .u64, .int .u64]] (.one (.leaf .bool)) fun x h => spileref01_Less x.1 x.2 h
theorem spileref01_Less.ok : EntryOK Try.prog 98 (spileref01_Less.e) := mkX_ok (spileref01_Less.tbok) Try.mixed Try.func98 (by kernel_rfl) (spileref01_Less.eq)
noncomputable def spileref01_LessP (a0 : (Int × Int)) (a1 : (Int × Int)) : Option (Bool) := (spileref01_Less a0 a1 H.empty).bind fun p => rdRes false p.2 (.one (.leaf .bool)) (Res.un (.one (.leaf .bool)) p.1)
theorem spileref01_LessP.eq : ∀ x : TT [.agg [.int .u64, .int .u64], .agg [.int .u64, .int .u64]], ((evalFn Try.prog (spileref01_Less.tb) spileref01_Less.A Try.f98 (.one (.leaf .bool)) (TT.lo false [.agg [.int .u64, .int .u64], .agg [.int .u64, .int .u64]] x) H.empty).bind fun p => rdRes false p.2 (.one (.leaf .bool)) (Res.un (.one (.leaf .bool)) p.1)) = spileref01_LessP x.1 x.2 := by
  intro x
  rw [show TT.lo false [.agg [.int .u64, .int .u64], .agg [.int .u64, .int .u64]] x = TT.un [.agg [.int .u64, .int .u64], .agg [.int .u64, .int .u64]] (x.1, x.2) from rfl, spileref01_Less.eq]
  rfl
noncomputable def spileref01_LessP.e : Entry := mkP [.agg [.int .u64, .int .u64], .agg [.int .u64, .int .u64]] (.one (.leaf .bool)) fun x => spileref01_LessP x.1 x.2
theorem spileref01_LessP.ok : EntryOK Try.prog 98 (spileref01_LessP.e) := mkP_ok (spileref01_Less.tbok) Try.mixed Try.func98 (by kernel_rfl) spileref01_LessP.eq

/-! ### spile/spileref01.minus: function 99 -/
noncomputable def spileref01_minus.tb : Table := tab [] [] Table.nil
theorem spileref01_minus.tbok : TabOK Try.prog (spileref01_minus.tb) := TabOK.tab (TabOK.nil Try.prog) (all_nil _) (all_nil _)
noncomputable def spileref01_minus (a0 : (Int × Int)) (a1 : (Int × Int)) (h : H) : Option (((Int × Int)) × H) :=
(match a0 with
| (a0_0, a0_1) =>
(match a1 with
| (a1_0, a1_1) =>
(let h1 : H := H.new h [.int .u64 a0_0, .int .u64 a0_1] 2
(let h2 : H := H.new h1 [.int .u64 a1_0, .int .u64 a1_1] 2
(let h3 : H := H.new h2 [.int .u64 0, .int .u64 0] 2
((rdT (.leaf (.int .u64)) h3 (.hp h.next 2 1)).bind fun x4 =>
((rdT (.leaf (.int .u64)) h3 (.hp h1.next 2 1)).bind fun x5 =>
(bif (decide (x4 < x5)) then ((rdT (.leaf (.int .u64)) h3 (.hp h.next 2 0)).bind fun x6 =>
((rdT (.leaf (.int .u64)) h3 (.hp h1.next 2 0)).bind fun x7 =>
((rdT (.leaf (.int .u64)) h3 (.hp h.next 2 1)).bind fun x8 =>
((rdT (.leaf (.int .u64)) h3 (.hp h1.next 2 1)).bind fun x9 =>
((H.wrs h3 (.hp h2.next 2 0) [.int .u64 (IntKind.wrap .u64 ((IntKind.wrap .u64 (x6 - x7)) - 1)), .int .u64 (IntKind.wrap .u64 ((IntKind.wrap .u64 (x8 + 4611686018427387904)) - x9))]).bind fun h10 =>
((rdT (.agg [.int .u64, .int .u64]) h10 (.hp h2.next 2 0 : V)).bind fun (x11_0, x11_1) =>
(some ((x11_0, x11_1), h10)))))))) else ((rdT (.leaf (.int .u64)) h3 (.hp h.next 2 0)).bind fun x12 =>
((rdT (.leaf (.int .u64)) h3 (.hp h1.next 2 0)).bind fun x13 =>
((rdT (.leaf (.int .u64)) h3 (.hp h.next 2 1)).bind fun x14 =>
((rdT (.leaf (.int .u64)) h3 (.hp h1.next 2 1)).bind fun x15 =>
((H.wrs h3 (.hp h2.next 2 0) [.int .u64 (IntKind.wrap .u64 (x12 - x13)), .int .u64 (IntKind.wrap .u64 (x14 - x15))]).bind fun h16 =>
((rdT (.agg [.int .u64, .int .u64]) h16 (.hp h2.next 2 0 : V)).bind fun (x17_0, x17_1) =>
(some ((x17_0, x17_1), h16))))))))))))))))
def spileref01_minus.A : Ann := { lits := [], conds := [], loops := [], regs := [] }
theorem spileref01_minus.eq : ∀ (x : TT [.agg [.int .u64, .int .u64], .agg [.int .u64, .int .u64]]) (h : H), evalFn Try.prog (spileref01_minus.tb) spileref01_minus.A Try.f99 (.one (.agg [.int .u64, .int .u64])) (TT.un [.agg [.int .u64, .int .u64], .agg [.int .u64, .int .u64]] x) h = spileref01_minus x.1 x.2 h := by
  intro x h
  kernel_rfl
noncomputable def spileref01_minus.e : Entry := mkX [.agg [.int .u64, .int .u64], .agg [.int .u64, .int .u64]] (.one (.agg [.int .u64, .int .u64])) fun x h => spileref01_minus x.1 x.2 h
theorem spileref01_minus.ok : EntryOK Try.prog 99 (spileref01_minus.e) := mkX_ok (spileref01_minus.tbok) Try.mixed Try.func99 (by kernel_rfl) (spileref01_minus.eq)
noncomputable def spileref01_minusP (a0 : (Int × Int)) (a1 : (Int × Int)) : Option ((Int × Int)) := (spileref01_minus a0 a1 H.empty).bind fun p => rdRes false p.2 (.one (.agg [.int .u64, .int .u64])) (Res.un (.one (.agg [.int .u64, .int .u64])) p.1)
theorem spileref01_minusP.eq : ∀ x : TT [.agg [.int .u64, .int .u64], .agg [.int .u64, .int .u64]], ((evalFn Try.prog (spileref01_minus.tb) spileref01_minus.A Try.f99 (.one (.agg [.int .u64, .int .u64])) (TT.lo false [.agg [.int .u64, .int .u64], .agg [.int .u64, .int .u64]] x) H.empty).bind fun p => rdRes false p.2 (.one (.agg [.int .u64, .int .u64])) (Res.un (.one (.agg [.int .u64, .int .u64])) p.1)) = spileref01_minusP x.1 x.2 := by
  intro x
  rw [show TT.lo false [.agg [.int .u64, .int .u64], .agg [.int .u64, .int .u64]] x = TT.un [.agg [.int .u64, .int .u64], .agg [.int .u64, .int .u64]] (x.1, x.2) from rfl, spileref01_minus.eq]
  rfl
noncomputable def spileref01_minusP.e : Entry := mkP [.agg [.int .u64, .int .u64], .agg [.int .u64, .int .u64]] (.one (.agg [.int .u64, .int .u64])) fun x => spileref01_minusP x.1 x.2
theorem spileref01_minusP.ok : EntryOK Try.prog 99 (spileref01_minusP.e) := mkP_ok (spileref01_minus.tbok) Try.mixed Try.func99 (by kernel_rfl) spileref01_minusP.eq

/-! ### spile/spileref01.Of: function 86 -/
noncomputable def spileref01_Of.tb : Table := tab [(97, spileref01_ProductP.e), (98, spileref01_LessP.e), (99, spileref01_minusP.e)] [] Table.nil
theorem spileref01_Of.tbok : TabOK Try.prog (spileref01_Of.tb) := TabOK.tab (TabOK.nil Try.prog) (all_cons spileref01_ProductP.ok (all_cons spileref01_LessP.ok (all_cons spileref01_minusP.ok (all_nil _)))) (all_nil _)
noncomputable def spileref01_Of.loop1 (h : H) (a2 : Int) (a3 : Int) : (Int × Int) × H → Option (Stp ((Int × Int) × H) (Flow (Int) (Int × Int × Bool) × H)) := fun ((y14, y15), h16) =>
(bif (decide ((0 : Int) < y15)) then (((let h17 : H := H.reserve h16 0
(bif (decide ((IntKind.wrap .i64 (y14 + y15)) ≤ a3)) then ((rdT (.agg [.int .u64, .int .u64]) h17 (.hp h.next 2 0)).bind fun (x18_0, x18_1) =>
((spileref01_ProductP (IntKind.wrap .i64 (y14 + y15)) a2).bind fun (r19_0, r19_1) =>
((spileref01_LessP (x18_0, x18_1) (r19_0, r19_1)).bind fun r20 =>
(some ((!r20), h17))))) else (some (false, h17))))).bind fun (y21, h22) =>
((bif y21 then (some (.next (IntKind.wrap .i64 (y14 + y15)), h22)) else (some (.next y14, h22)) : Option (Flow (Int) (Int × Int × Bool) × H)).bind fun (fl24, h23) => match fl24 with
| .next y25 =>
(some (.more ((y25, (IntKind.wrap .i64 (Int.tdiv y15 2))), h23)))
| .ret rr26 => (some (.done (.ret rr26, h23)))
| .ex0 _ => none
| .ex1 _ => none)) else (some (.done (.ex0 y14, h16))))
noncomputable def spileref01_Of (a0 : Int) (a1 : Int) (a2 : Int) (a3 : Int) (h : H) : Option ((Int × Int × Bool) × H) :=
((spileref01_ProductP a0 a1).bind fun (r1_0, r1_1) =>
(let h2 : H := H.new h [.int .u64 0, .int .u64 0] 2
((H.wrs h2 (.hp h.next 2 0) [.int .u64 r1_0, .int .u64 r1_1]).bind fun h3 =>
(((let h4 : H := H.reserve h3 0
((spileref01_ProductP a3 a2).bind fun (r5_0, r5_1) =>
((rdT (.agg [.int .u64, .int .u64]) h4 (.hp h.next 2 0)).bind fun (x6_0, x6_1) =>
((spileref01_LessP (r5_0, r5_1) (x6_0, x6_1)).bind fun r7 =>
(bif r7 then ((rdT (.agg [.int .u64, .int .u64]) h4 (.hp h.next 2 0)).bind fun (x8_0, x8_1) =>
((spileref01_ProductP a3 a2).bind fun (r9_0, r9_1) =>
((spileref01_minusP (x8_0, x8_1) (r9_0, r9_1)).bind fun (r10_0, r10_1) =>
((spileref01_LessP (r10_0, r10_1) (0, (IntKind.wrap .u64 (a2)))).bind fun r11 =>
(some ((!r11), h4)))))) else (some (false, h4)))))))).bind fun (y12, h13) =>
(bif y12 then (some ((0, 0, false), h13)) else ((iter FUEL (spileref01_Of.loop1 h a2 a3) ((0, 2305843009213693952), h13)).bind fun (fl28, h27) => match fl28 with
| .next _ => none
| .ret rr29 => (some (rr29, h27))
| .ex0 y30 =>
(let h31 : H := H.reserve h27 0
((rdT (.agg [.int .u64, .int .u64]) h31 (.hp h.next 2 0)).bind fun (x32_0, x32_1) =>
((spileref01_ProductP y30 a2).bind fun (r33_0, r33_1) =>
((spileref01_minusP (x32_0, x32_1) (r33_0, r33_1)).bind fun (r34_0, r34_1) =>
(some ((y30, (IntKind.wrap .i64 (r34_1)), true), h31))))))
| .ex1 _ => none))))))
def spileref01_Of.A : Ann := { lits := [], conds := [(52, [12], [.leaf (.int .i64)], none, none)], loops := [(6, [12, 13], [.leaf (.int .i64), .leaf (.int .i64)], [12], [.leaf (.int .i64)], some 0, none)], regs := [(2, [33], [.leaf .bool]), (8, [52], [.leaf .bool])] }
theorem spileref01_Of.eq : ∀ (x : TT [.leaf (.int .i64), .leaf (.int .i64), .leaf (.int .i64), .leaf (.int .i64)]) (h : H), evalFn Try.prog (spileref01_Of.tb) spileref01_Of.A Try.f86 (.many [.leaf (.int .i64), .leaf (.int .i64), .leaf .bool]) (TT.un [.leaf (.int .i64), .leaf (.int .i64), .leaf (.int .i64), .leaf (.int .i64)] x) h = spileref01_Of x.1 x.2.1 x.2.2.1 x.2.2.2 h := by
  intro x h
  kernel_rfl
noncomputable def spileref01_Of.e : Entry := mkX [.leaf (.int .i64), .leaf (.int .i64), .leaf (.int .i64), .leaf (.int .i64)] (.many [.leaf (.int .i64), .leaf (.int .i64), .leaf .bool]) fun x h => spileref01_Of x.1 x.2.1 x.2.2.1 x.2.2.2 h
theorem spileref01_Of.ok : EntryOK Try.prog 86 (spileref01_Of.e) := mkX_ok (spileref01_Of.tbok) Try.mixed Try.func86 (by kernel_rfl) (spileref01_Of.eq)
noncomputable def spileref01_OfP (a0 : Int) (a1 : Int) (a2 : Int) (a3 : Int) : Option (Int × Int × Bool) := (spileref01_Of a0 a1 a2 a3 H.empty).bind fun p => rdRes false p.2 (.many [.leaf (.int .i64), .leaf (.int .i64), .leaf .bool]) (Res.un (.many [.leaf (.int .i64), .leaf (.int .i64), .leaf .bool]) p.1)
theorem spileref01_OfP.eq : ∀ x : TT [.leaf (.int .i64), .leaf (.int .i64), .leaf (.int .i64), .leaf (.int .i64)], ((evalFn Try.prog (spileref01_Of.tb) spileref01_Of.A Try.f86 (.many [.leaf (.int .i64), .leaf (.int .i64), .leaf .bool]) (TT.lo false [.leaf (.int .i64), .leaf (.int .i64), .leaf (.int .i64), .leaf (.int .i64)] x) H.empty).bind fun p => rdRes false p.2 (.many [.leaf (.int .i64), .leaf (.int .i64), .leaf .bool]) (Res.un (.many [.leaf (.int .i64), .leaf (.int .i64), .leaf .bool]) p.1)) = spileref01_OfP x.1 x.2.1 x.2.2.1 x.2.2.2 := by
  intro x
  rw [show TT.lo false [.leaf (.int .i64), .leaf (.int .i64), .leaf (.int .i64), .leaf (.int .i64)] x = TT.un [.leaf (.int .i64), .leaf (.int .i64), .leaf (.int .i64), .leaf (.int .i64)] (x.1, x.2.1, x.2.2.1, x.2.2.2) from rfl, spileref01_Of.eq]
  rfl
noncomputable def spileref01_OfP.e : Entry := mkP [.leaf (.int .i64), .leaf (.int .i64), .leaf (.int .i64), .leaf (.int .i64)] (.many [.leaf (.int .i64), .leaf (.int .i64), .leaf .bool]) fun x => spileref01_OfP x.1 x.2.1 x.2.2.1 x.2.2.2
theorem spileref01_OfP.ok : EntryOK Try.prog 86 (spileref01_OfP.e) := mkP_ok (spileref01_Of.tbok) Try.mixed Try.func86 (by kernel_rfl) spileref01_OfP.eq
end Go.Proofs.Ytbcpdecgfdlaaaa
