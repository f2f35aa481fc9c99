/- The functions of the program as Lean functions, each with the equation by which the evaluator is that function. Written by a program of this session (evdrive.py). Conditions: none. -/
import Derived.Test.YtbcpdecgfdlaaaaProg
import Derived.Test.YtbcpdecgfdlaaaaEvSpec
import Derived.Test.YtbcpdecgfdlaaaaFn8
namespace Go.Proofs.Ytbcpdecgfdlaaaa
open Go Go.Proofs.Ytbcpdecgfdlaaaa.Ev
set_option maxRecDepth 100000
set_option linter.unusedVariables false
/-! ### spile/spileref21.Plain: function 57 -/
noncomputable def spileref21_Plain.tb : Table := tab [] [] Table.nil
theorem spileref21_Plain.tbok : TabOK Try.prog (spileref21_Plain.tb) := TabOK.tab (TabOK.nil Try.prog) (all_nil _) (all_nil _)
noncomputable def spileref21_Plain (a0 : (Int × Int)) (h : H) : Option ((Bool) × H) :=
(match a0 with
| (a0_0, a0_1) =>
(let h1 : H := H.new h [.int .i64 a0_0, .int .i64 a0_1] 2
((((rdT (.leaf (.int .i64)) h1 (.hp h.next 2 0)).bind fun x2 =>
(bif (decide ((0 : Int) ≤ x2)) then ((rdT (.leaf (.int .i64)) h1 (.hp h.next 2 0)).bind fun x3 =>
(bif (decide (x3 ≤ 10737418240000)) then ((rdT (.leaf (.int .i64)) h1 (.hp h.next 2 1)).bind fun x4 =>
(bif (decide ((0 : Int) ≤ x4)) then ((rdT (.leaf (.int .i64)) h1 (.hp h.next 2 1)).bind fun x5 =>
(bif (decide (x5 ≤ 128849018880000)) then ((rdT (.leaf (.int .i64)) h1 (.hp h.next 2 1)).bind fun x6 =>
(bif !(decide ((0 : Int) < x6)) then ((rdT (.leaf (.int .i64)) h1 (.hp h.next 2 0)).bind fun x7 =>
(some ((decide (x7 = 0)), h1))) else (some (true, h1)))) else (some (false, h1)))) else (some (false, h1)))) else (some (false, h1)))) else (some (false, h1))))).bind fun (y8, h9) =>
(some (y8, h9)))))
def spileref21_Plain.A : Ann := { lits := [], conds := [], loops := [], regs := [(1, [2], [.leaf .bool])] }
theorem spileref21_Plain.eq : ∀ (x : TT [.agg [.int .i64, .int .i64]]) (h : H), evalFn Try.prog (spileref21_Plain.tb) spileref21_Plain.A Try.f57 (.one (.leaf .bool)) (TT.un [.agg [.int .i64, .int .i64]] x) h = spileref21_Plain x h := by
  intro x h
  kernel_rfl
noncomputable def spileref21_Plain.e : Entry := mkX [.agg [.int .i64, .int .i64]] (.one (.leaf .bool)) fun x h => spileref21_Plain x h
theorem spileref21_Plain.ok : EntryOK Try.prog 57 (spileref21_Plain.e) := mkX_ok (spileref21_Plain.tbok) Try.mixed Try.func57 (by kernel_rfl) (spileref21_Plain.eq)
noncomputable def spileref21_PlainP (a0 : (Int × Int)) : Option (Bool) := (spileref21_Plain a0 H.empty).bind fun p => rdRes false p.2 (.one (.leaf .bool)) (Res.un (.one (.leaf .bool)) p.1)
theorem spileref21_PlainP.eq : ∀ x : TT [.agg [.int .i64, .int .i64]], ((evalFn Try.prog (spileref21_Plain.tb) spileref21_Plain.A Try.f57 (.one (.leaf .bool)) (TT.lo false [.agg [.int .i64, .int .i64]] x) H.empty).bind fun p => rdRes false p.2 (.one (.leaf .bool)) (Res.un (.one (.leaf .bool)) p.1)) = spileref21_PlainP x := by
  intro x
  rw [show TT.lo false [.agg [.int .i64, .int .i64]] x = TT.un [.agg [.int .i64, .int .i64]] (x) from rfl, spileref21_Plain.eq]
  rfl
noncomputable def spileref21_PlainP.e : Entry := mkP [.agg [.int .i64, .int .i64]] (.one (.leaf .bool)) fun x => spileref21_PlainP x
theorem spileref21_PlainP.ok : EntryOK Try.prog 57 (spileref21_PlainP.e) := mkP_ok (spileref21_Plain.tbok) Try.mixed Try.func57 (by kernel_rfl) spileref21_PlainP.eq

/-! ### spile/spileref22.Shares: function 101 -/
noncomputable def spileref22_Shares.tb : Table := tab [] [] Table.nil
theorem spileref22_Shares.tbok : TabOK Try.prog (spileref22_Shares.tb) := TabOK.tab (TabOK.nil Try.prog) (all_nil _) (all_nil _)
noncomputable def spileref22_Shares.loop1 (a0 : SV) : (Int) × H → Option (Stp ((Int) × H) (Flow (Unit) (Int) × H)) := fun (y1, h2) =>
(bif (decide (y1 < ((a0.len : Nat) : Int))) then (((let h3 : H := H.reserve h2 0
(guardO (0 ≤ y1 ∧ y1 < ((a0.len : Nat) : Int)) (guardO (V.nn ((V.add a0.a (Int.toNat y1 * 2)) : V) = true) ((rdT (.leaf (.int .i64)) h3 (V.add (V.add a0.a (Int.toNat y1 * 2)) 0)).bind fun x4 =>
(bif !(decide (x4 < 1)) then (guardO (0 ≤ y1 ∧ y1 < ((a0.len : Nat) : Int)) (guardO (V.nn ((V.add a0.a (Int.toNat y1 * 2)) : V) = true) ((rdT (.leaf (.int .i64)) h3 (V.add (V.add a0.a (Int.toNat y1 * 2)) 0)).bind fun x5 =>
(bif !(decide ((1073741824 : Int) < x5)) then (guardO (0 ≤ y1 ∧ y1 < ((a0.len : Nat) : Int)) (guardO (V.nn ((V.add a0.a (Int.toNat y1 * 2)) : V) = true) ((rdT (.leaf (.int .i64)) h3 (V.add (V.add a0.a (Int.toNat y1 * 2)) 1)).bind fun x6 =>
(bif !(decide (x6 < 1)) then (guardO (0 ≤ y1 ∧ y1 < ((a0.len : Nat) : Int)) (guardO (V.nn ((V.add a0.a (Int.toNat y1 * 2)) : V) = true) ((rdT (.leaf (.int .i64)) h3 (V.add (V.add a0.a (Int.toNat y1 * 2)) 1)).bind fun x7 =>
(bif !(decide ((10737418240000 : Int) < x7)) then (bif (decide ((0 : Int) < y1)) then (guardO (0 ≤ y1 ∧ y1 < ((a0.len : Nat) : Int)) (guardO (V.nn ((V.add a0.a (Int.toNat y1 * 2)) : V) = true) ((rdT (.leaf (.int .i64)) h3 (V.add (V.add a0.a (Int.toNat y1 * 2)) 0)).bind fun x8 =>
(guardO (0 ≤ (IntKind.wrap .i64 (y1 - 1)) ∧ (IntKind.wrap .i64 (y1 - 1)) < ((a0.len : Nat) : Int)) (guardO (V.nn ((V.add a0.a (Int.toNat (IntKind.wrap .i64 (y1 - 1)) * 2)) : V) = true) ((rdT (.leaf (.int .i64)) h3 (V.add (V.add a0.a (Int.toNat (IntKind.wrap .i64 (y1 - 1)) * 2)) 0)).bind fun x9 =>
(some ((decide (x8 ≤ x9)), h3)))))))) else (some (false, h3))) else (some (true, h3)))))) else (some (true, h3)))))) else (some (true, h3)))))) else (some (true, h3)))))))).bind fun (y10, h11) =>
(bif y10 then (some (.done (.ret 10, h11))) else (some (.more ((IntKind.wrap .i64 (y1 + 1)), h11))))) else (some (.done (.ex0 (), h2))))
noncomputable def spileref22_Shares (a0 : SV) (h : H) : Option ((Int) × H) :=
(bif (decide ((32 : Int) < ((a0.len : Nat) : Int))) then (some (12, h)) else ((iter FUEL (spileref22_Shares.loop1 a0) (0, h)).bind fun (fl13, h12) => match fl13 with
| .next _ => none
| .ret rr14 => (some (rr14, h12))
| .ex0 _ =>
(some (0, h12))
| .ex1 _ => none))
def spileref22_Shares.A : Ann := { lits := [], conds := [], loops := [(4, [3], [.leaf (.int .i64)], [], [], some 0, none)], regs := [(6, [60], [.leaf .bool])] }
theorem spileref22_Shares.eq : ∀ (x : TT [.leaf .slice]) (h : H), evalFn Try.prog (spileref22_Shares.tb) spileref22_Shares.A Try.f101 (.one (.leaf (.int .i64))) (TT.un [.leaf .slice] x) h = spileref22_Shares x h := by
  intro x h
  kernel_rfl
noncomputable def spileref22_Shares.e : Entry := mkX [.leaf .slice] (.one (.leaf (.int .i64))) fun x h => spileref22_Shares x h
theorem spileref22_Shares.ok : EntryOK Try.prog 101 (spileref22_Shares.e) := mkX_ok (spileref22_Shares.tbok) Try.mixed Try.func101 (by kernel_rfl) (spileref22_Shares.eq)
noncomputable def spileref22_SharesP (a0 : (List (Int × Int))) : Option (Int) := (spileref22_Shares (rowSV false [.int .i64, .int .i64] a0) H.empty).bind fun p => rdRes false p.2 (.one (.leaf (.int .i64))) (Res.un (.one (.leaf (.int .i64))) p.1)
theorem spileref22_SharesP.eq : ∀ x : TT [.leaf (.row [.int .i64, .int .i64])], ((evalFn Try.prog (spileref22_Shares.tb) spileref22_Shares.A Try.f101 (.one (.leaf (.int .i64))) (TT.lo false [.leaf (.row [.int .i64, .int .i64])] x) H.empty).bind fun p => rdRes false p.2 (.one (.leaf (.int .i64))) (Res.un (.one (.leaf (.int .i64))) p.1)) = spileref22_SharesP x := by
  intro x
  rw [show TT.lo false [.leaf (.row [.int .i64, .int .i64])] x = TT.un [.leaf .slice] ((rowSV false [.int .i64, .int .i64] x)) from rfl, spileref22_Shares.eq]
  rfl
noncomputable def spileref22_SharesP.e : Entry := mkP [.leaf (.row [.int .i64, .int .i64])] (.one (.leaf (.int .i64))) fun x => spileref22_SharesP x
theorem spileref22_SharesP.ok : EntryOK Try.prog 101 (spileref22_SharesP.e) := mkP_ok (spileref22_Shares.tbok) Try.mixed Try.func101 (by kernel_rfl) spileref22_SharesP.eq

/-! ### spile/spileref22.One: function 90 -/
noncomputable def spileref22_One.tb : Table := tab [(38, spileref22_AlcoholP.e), (57, spileref21_PlainP.e), (101, spileref22_SharesP.e)] [] Table.nil
theorem spileref22_One.tbok : TabOK Try.prog (spileref22_One.tb) := TabOK.tab (TabOK.nil Try.prog) (all_cons spileref22_AlcoholP.ok (all_cons spileref21_PlainP.ok (all_cons spileref22_SharesP.ok (all_nil _)))) (all_nil _)
noncomputable def spileref22_One (a0 : (Int × Int × Int × SV)) (h : H) : Option ((Int) × H) :=
(match a0 with
| (a0_0, a0_1, a0_2, a0_3) =>
(let h1 : H := H.new h [.int .i64 a0_0, .int .i64 a0_1, .int .i64 a0_2, .slice a0_3.a a0_3.len a0_3.cap a0_3.tail] 4
((((rdT (.agg [.int .i64, .int .i64]) h1 (.hp h.next 4 1)).bind fun (x2_0, x2_1) =>
((spileref21_PlainP (x2_0, x2_1)).bind fun r3 =>
(bif !(!r3) then ((rdT (.leaf (.int .i64)) h1 (.hp h.next 4 2)).bind fun x4 =>
(some ((decide (x4 = 0)), h1))) else (some (true, h1)))))).bind fun (y5, h6) =>
(bif y5 then (some (1, h6)) else ((rdT (.leaf .slice) h6 (.hp h.next 4 3)).bind fun x7 =>
((rdRow true h6 [.int .i64, .int .i64] x7).bind fun s9 =>
((spileref22_SharesP s9).bind fun r8 =>
(bif (!(decide (r8 = 0))) then (some (r8, h6)) else (let h10 : H := H.reserve h6 0
((rdT (.leaf .slice) h10 (.hp h.next 4 3)).bind fun x11 =>
((rdRow true h10 [.int .i64, .int .i64] x11).bind fun s13 =>
((spileref22_AlcoholP s13).bind fun r12 =>
((rdT (.leaf (.int .i64)) h10 (.hp h.next 4 1)).bind fun x14 =>
(bif (!(decide (r12 = x14))) then (some (14, h10)) else (some (0, h10))))))))))))))))
def spileref22_One.A : Ann := { lits := [], conds := [], loops := [], regs := [(1, [13], [.leaf .bool])] }
theorem spileref22_One.eq : ∀ (x : TT [.agg [.int .i64, .int .i64, .int .i64, .slice]]) (h : H), evalFn Try.prog (spileref22_One.tb) spileref22_One.A Try.f90 (.one (.leaf (.int .i64))) (TT.un [.agg [.int .i64, .int .i64, .int .i64, .slice]] x) h = spileref22_One x h := by
  intro x h
  kernel_rfl
noncomputable def spileref22_One.e : Entry := mkX [.agg [.int .i64, .int .i64, .int .i64, .slice]] (.one (.leaf (.int .i64))) fun x h => spileref22_One x h
theorem spileref22_One.ok : EntryOK Try.prog 90 (spileref22_One.e) := mkX_ok (spileref22_One.tbok) Try.mixed Try.func90 (by kernel_rfl) (spileref22_One.eq)
noncomputable def spileref22_OneP (a0 : (Int × Int × Int × (List (Int × Int)))) : Option (Int) := (spileref22_One (a0.1, a0.2.1, a0.2.2.1, rowSV false [.int .i64, .int .i64] a0.2.2.2) H.empty).bind fun p => rdRes false p.2 (.one (.leaf (.int .i64))) (Res.un (.one (.leaf (.int .i64))) p.1)
theorem spileref22_OneP.eq : ∀ x : TT [.agg [.int .i64, .int .i64, .int .i64, .row [.int .i64, .int .i64]]], ((evalFn Try.prog (spileref22_One.tb) spileref22_One.A Try.f90 (.one (.leaf (.int .i64))) (TT.lo false [.agg [.int .i64, .int .i64, .int .i64, .row [.int .i64, .int .i64]]] x) H.empty).bind fun p => rdRes false p.2 (.one (.leaf (.int .i64))) (Res.un (.one (.leaf (.int .i64))) p.1)) = spileref22_OneP x := by
  intro x
  rw [show TT.lo false [.agg [.int .i64, .int .i64, .int .i64, .row [.int .i64, .int .i64]]] x = TT.un [.agg [.int .i64, .int .i64, .int .i64, .slice]] ((x.1, x.2.1, x.2.2.1, rowSV false [.int .i64, .int .i64] x.2.2.2)) from rfl, spileref22_One.eq]
  rfl
noncomputable def spileref22_OneP.e : Entry := mkP [.agg [.int .i64, .int .i64, .int .i64, .row [.int .i64, .int .i64]]] (.one (.leaf (.int .i64))) fun x => spileref22_OneP x
theorem spileref22_OneP.ok : EntryOK Try.prog 90 (spileref22_OneP.e) := mkP_ok (spileref22_One.tbok) Try.mixed Try.func90 (by kernel_rfl) spileref22_OneP.eq

/-! ### spile/spileref22.Check: function 75 -/
noncomputable def spileref22_Check.tb : Table := tab [(54, spileref22_IDP.e), (90, spileref22_OneP.e)] [] Table.nil
theorem spileref22_Check.tbok : TabOK Try.prog (spileref22_Check.tb) := TabOK.tab (TabOK.nil Try.prog) (all_cons spileref22_IDP.ok (all_cons spileref22_OneP.ok (all_nil _))) (all_nil _)
noncomputable def spileref22_Check.loop1 (a0 : SV) : (Int) × H → Option (Stp ((Int) × H) (Flow (Unit) (Int × Int) × H)) := fun (y1, h2) =>
(bif (decide (y1 < ((a0.len : Nat) : Int))) then (guardO (0 ≤ y1 ∧ y1 < ((a0.len : Nat) : Int)) (guardO (V.nn ((V.add a0.a (Int.toNat y1 * 4)) : V) = true) ((rdT (.leaf (.int .i64)) h2 (V.add (V.add a0.a (Int.toNat y1 * 4)) 0)).bind fun x3 =>
((spileref22_IDP x3).bind fun r4 =>
(bif (!r4) then (some (.done (.ret (y1, 2), h2))) else (((let h5 : H := H.reserve h2 0
(bif (decide ((0 : Int) < y1)) then (guardO (0 ≤ y1 ∧ y1 < ((a0.len : Nat) : Int)) (guardO (V.nn ((V.add a0.a (Int.toNat y1 * 4)) : V) = true) ((rdT (.leaf (.int .i64)) h5 (V.add (V.add a0.a (Int.toNat y1 * 4)) 0)).bind fun x6 =>
(guardO (0 ≤ (IntKind.wrap .i64 (y1 - 1)) ∧ (IntKind.wrap .i64 (y1 - 1)) < ((a0.len : Nat) : Int)) (guardO (V.nn ((V.add a0.a (Int.toNat (IntKind.wrap .i64 (y1 - 1)) * 4)) : V) = true) ((rdT (.leaf (.int .i64)) h5 (V.add (V.add a0.a (Int.toNat (IntKind.wrap .i64 (y1 - 1)) * 4)) 0)).bind fun x7 =>
(some ((decide (x6 ≤ x7)), h5)))))))) else (some (false, h5))))).bind fun (y8, h9) =>
(bif y8 then (some (.done (.ret (y1, 5), h9))) else (guardO (0 ≤ y1 ∧ y1 < ((a0.len : Nat) : Int)) ((rdT (.agg [.int .i64, .int .i64, .int .i64, .slice]) h9 (V.add a0.a (Int.toNat y1 * 4))).bind fun (x10_0, x10_1, x10_2, x10_3) =>
((rdRow true h9 [.int .i64, .int .i64] x10_3).bind fun s12 =>
((spileref22_OneP (x10_0, x10_1, x10_2, s12)).bind fun r11 =>
(bif (!(decide (r11 = 0))) then (some (.done (.ret (y1, r11), h9))) else (some (.more ((IntKind.wrap .i64 (y1 + 1)), h9))))))))))))))) else (some (.done (.ex0 (), h2))))
noncomputable def spileref22_Check (a0 : SV) (h : H) : Option ((Int × Int) × H) :=
(bif (decide ((32 : Int) < ((a0.len : Nat) : Int))) then (some (((-1), 8), h)) else ((iter FUEL (spileref22_Check.loop1 a0) (0, h)).bind fun (fl14, h13) => match fl14 with
| .next _ => none
| .ret rr15 => (some (rr15, h13))
| .ex0 _ =>
(some (((-1), 0), h13))
| .ex1 _ => none))
def spileref22_Check.A : Ann := { lits := [], conds := [], loops := [(4, [4], [.leaf (.int .i64)], [], [], some 0, none)], regs := [(8, [38], [.leaf .bool])] }
theorem spileref22_Check.eq : ∀ (x : TT [.leaf .slice]) (h : H), evalFn Try.prog (spileref22_Check.tb) spileref22_Check.A Try.f75 (.many [.leaf (.int .i64), .leaf (.int .i64)]) (TT.un [.leaf .slice] x) h = spileref22_Check x h := by
  intro x h
  kernel_rfl
noncomputable def spileref22_Check.e : Entry := mkX [.leaf .slice] (.many [.leaf (.int .i64), .leaf (.int .i64)]) fun x h => spileref22_Check x h
theorem spileref22_Check.ok : EntryOK Try.prog 75 (spileref22_Check.e) := mkX_ok (spileref22_Check.tbok) Try.mixed Try.func75 (by kernel_rfl) (spileref22_Check.eq)
noncomputable def spileref22_CheckP (a0 : (List (Int × Int × Int × (List (Int × Int))))) : Option (Int × Int) := (spileref22_Check (rowSV false [.int .i64, .int .i64, .int .i64, .row [.int .i64, .int .i64]] a0) H.empty).bind fun p => rdRes false p.2 (.many [.leaf (.int .i64), .leaf (.int .i64)]) (Res.un (.many [.leaf (.int .i64), .leaf (.int .i64)]) p.1)
theorem spileref22_CheckP.eq : ∀ x : TT [.leaf (.row [.int .i64, .int .i64, .int .i64, .row [.int .i64, .int .i64]])], ((evalFn Try.prog (spileref22_Check.tb) spileref22_Check.A Try.f75 (.many [.leaf (.int .i64), .leaf (.int .i64)]) (TT.lo false [.leaf (.row [.int .i64, .int .i64, .int .i64, .row [.int .i64, .int .i64]])] x) H.empty).bind fun p => rdRes false p.2 (.many [.leaf (.int .i64), .leaf (.int .i64)]) (Res.un (.many [.leaf (.int .i64), .leaf (.int .i64)]) p.1)) = spileref22_CheckP x := by
  intro x
  rw [show TT.lo false [.leaf (.row [.int .i64, .int .i64, .int .i64, .row [.int .i64, .int .i64]])] x = TT.un [.leaf .slice] ((rowSV false [.int .i64, .int .i64, .int .i64, .row [.int .i64, .int .i64]] x)) from rfl, spileref22_Check.eq]
  rfl
noncomputable def spileref22_CheckP.e : Entry := mkP [.leaf (.row [.int .i64, .int .i64, .int .i64, .row [.int .i64, .int .i64]])] (.many [.leaf (.int .i64), .leaf (.int .i64)]) fun x => spileref22_CheckP x
theorem spileref22_CheckP.ok : EntryOK Try.prog 75 (spileref22_CheckP.e) := mkP_ok (spileref22_Check.tbok) Try.mixed Try.func75 (by kernel_rfl) spileref22_CheckP.eq

/-! ### spile/spileref22.Right: function 53 -/
noncomputable def spileref22_Right.tb : Table := tab [(75, spileref22_CheckP.e)] [] Table.nil
theorem spileref22_Right.tbok : TabOK Try.prog (spileref22_Right.tb) := TabOK.tab (TabOK.nil Try.prog) (all_cons spileref22_CheckP.ok (all_nil _)) (all_nil _)
noncomputable def spileref22_Right (a0 : SV) (h : H) : Option ((Bool) × H) :=
((rdRow true h [.int .i64, .int .i64, .int .i64, .row [.int .i64, .int .i64]] a0).bind fun s3 =>
((spileref22_CheckP s3).bind fun (r1, r2) =>
(some ((decide (r2 = 0)), h))))
def spileref22_Right.A : Ann := { lits := [], conds := [], loops := [], regs := [] }
theorem spileref22_Right.eq : ∀ (x : TT [.leaf .slice]) (h : H), evalFn Try.prog (spileref22_Right.tb) spileref22_Right.A Try.f53 (.one (.leaf .bool)) (TT.un [.leaf .slice] x) h = spileref22_Right x h := by
  intro x h
  kernel_rfl
noncomputable def spileref22_Right.e : Entry := mkX [.leaf .slice] (.one (.leaf .bool)) fun x h => spileref22_Right x h
theorem spileref22_Right.ok : EntryOK Try.prog 53 (spileref22_Right.e) := mkX_ok (spileref22_Right.tbok) Try.mixed Try.func53 (by kernel_rfl) (spileref22_Right.eq)
noncomputable def spileref22_RightP (a0 : (List (Int × Int × Int × (List (Int × Int))))) : Option (Bool) := (spileref22_Right (rowSV false [.int .i64, .int .i64, .int .i64, .row [.int .i64, .int .i64]] a0) H.empty).bind fun p => rdRes false p.2 (.one (.leaf .bool)) (Res.un (.one (.leaf .bool)) p.1)
theorem spileref22_RightP.eq : ∀ x : TT [.leaf (.row [.int .i64, .int .i64, .int .i64, .row [.int .i64, .int .i64]])], ((evalFn Try.prog (spileref22_Right.tb) spileref22_Right.A Try.f53 (.one (.leaf .bool)) (TT.lo false [.leaf (.row [.int .i64, .int .i64, .int .i64, .row [.int .i64, .int .i64]])] x) H.empty).bind fun p => rdRes false p.2 (.one (.leaf .bool)) (Res.un (.one (.leaf .bool)) p.1)) = spileref22_RightP x := by
  intro x
  rw [show TT.lo false [.leaf (.row [.int .i64, .int .i64, .int .i64, .row [.int .i64, .int .i64]])] x = TT.un [.leaf .slice] ((rowSV false [.int .i64, .int .i64, .int .i64, .row [.int .i64, .int .i64]] x)) from rfl, spileref22_Right.eq]
  rfl
noncomputable def spileref22_RightP.e : Entry := mkP [.leaf (.row [.int .i64, .int .i64, .int .i64, .row [.int .i64, .int .i64]])] (.one (.leaf .bool)) fun x => spileref22_RightP x
theorem spileref22_RightP.ok : EntryOK Try.prog 53 (spileref22_RightP.e) := mkP_ok (spileref22_Right.tbok) Try.mixed Try.func53 (by kernel_rfl) spileref22_RightP.eq

/-! ### spile/spileref21.Take: function 76 -/
noncomputable def spileref21_Take.tb : Table := tab [(70, spileref01_ProportionP.e)] [] Table.nil
theorem spileref21_Take.tbok : TabOK Try.prog (spileref21_Take.tb) := TabOK.tab (TabOK.nil Try.prog) (all_cons spileref01_ProportionP.ok (all_nil _)) (all_nil _)
noncomputable def spileref21_Take (a0 : (Int × Int)) (a1 : Int) (h : H) : Option (((Int × Int)) × H) :=
(match a0 with
| (a0_0, a0_1) =>
(let h1 : H := H.new h [.int .i64 a0_0, .int .i64 a0_1] 2
(let h2 : H := H.new h1 [.int .i64 0, .int .i64 0] 2
((rdT (.leaf (.int .i64)) h2 (.hp h.next 2 1)).bind fun x3 =>
(bif (decide (x3 = 0)) then ((H.wrs h2 (.hp h1.next 2 0) [.int .i64 0, .int .i64 0]).bind fun h4 =>
((rdT (.agg [.int .i64, .int .i64]) h4 (.hp h1.next 2 0 : V)).bind fun (x5_0, x5_1) =>
(some ((x5_0, x5_1), h4)))) else ((rdT (.leaf (.int .i64)) h2 (.hp h.next 2 0)).bind fun x6 =>
((rdT (.leaf (.int .i64)) h2 (.hp h.next 2 1)).bind fun x7 =>
((spileref01_ProportionP x6 a1 x7).bind fun (r8, r9) =>
((H.wrs h2 (.hp h1.next 2 0) [.int .i64 r8, .int .i64 a1]).bind fun h10 =>
((rdT (.agg [.int .i64, .int .i64]) h10 (.hp h1.next 2 0 : V)).bind fun (x11_0, x11_1) =>
(some ((x11_0, x11_1), h10))))))))))))
def spileref21_Take.A : Ann := { lits := [], conds := [], loops := [], regs := [] }
theorem spileref21_Take.eq : ∀ (x : TT [.agg [.int .i64, .int .i64], .leaf (.int .i64)]) (h : H), evalFn Try.prog (spileref21_Take.tb) spileref21_Take.A Try.f76 (.one (.agg [.int .i64, .int .i64])) (TT.un [.agg [.int .i64, .int .i64], .leaf (.int .i64)] x) h = spileref21_Take x.1 x.2 h := by
  intro x h
  kernel_rfl
noncomputable def spileref21_Take.e : Entry := mkX [.agg [.int .i64, .int .i64], .leaf (.int .i64)] (.one (.agg [.int .i64, .int .i64])) fun x h => spileref21_Take x.1 x.2 h
theorem spileref21_Take.ok : EntryOK Try.prog 76 (spileref21_Take.e) := mkX_ok (spileref21_Take.tbok) Try.mixed Try.func76 (by kernel_rfl) (spileref21_Take.eq)
noncomputable def spileref21_TakeP (a0 : (Int × Int)) (a1 : Int) : Option ((Int × Int)) := (spileref21_Take a0 a1 H.empty).bind fun p => rdRes false p.2 (.one (.agg [.int .i64, .int .i64])) (Res.un (.one (.agg [.int .i64, .int .i64])) p.1)
theorem spileref21_TakeP.eq : ∀ x : TT [.agg [.int .i64, .int .i64], .leaf (.int .i64)], ((evalFn Try.prog (spileref21_Take.tb) spileref21_Take.A Try.f76 (.one (.agg [.int .i64, .int .i64])) (TT.lo false [.agg [.int .i64, .int .i64], .leaf (.int .i64)] x) H.empty).bind fun p => rdRes false p.2 (.one (.agg [.int .i64, .int .i64])) (Res.un (.one (.agg [.int .i64, .int .i64])) p.1)) = spileref21_TakeP x.1 x.2 := by
  intro x
  rw [show TT.lo false [.agg [.int .i64, .int .i64], .leaf (.int .i64)] x = TT.un [.agg [.int .i64, .int .i64], .leaf (.int .i64)] (x.1, x.2) from rfl, spileref21_Take.eq]
  rfl
noncomputable def spileref21_TakeP.e : Entry := mkP [.agg [.int .i64, .int .i64], .leaf (.int .i64)] (.one (.agg [.int .i64, .int .i64])) fun x => spileref21_TakeP x.1 x.2
theorem spileref21_TakeP.ok : EntryOK Try.prog 76 (spileref21_TakeP.e) := mkP_ok (spileref21_Take.tbok) Try.mixed Try.func76 (by kernel_rfl) spileref21_TakeP.eq

/-! ### spile/spileref21.Minus: function 77 -/
noncomputable def spileref21_Minus.tb : Table := tab [] [] Table.nil
theorem spileref21_Minus.tbok : TabOK Try.prog (spileref21_Minus.tb) := TabOK.tab (TabOK.nil Try.prog) (all_nil _) (all_nil _)
noncomputable def spileref21_Minus (a0 : (Int × Int)) (a1 : (Int × Int)) (h : H) : Option (((Int × Int)) × H) :=
(match a0 with
| (a0_0, a0_1) =>
(match a1 with
| (a1_0, a1_1) =>
(let h1 : H := H.new h [.int .i64 a0_0, .int .i64 a0_1] 2
(let h2 : H := H.new h1 [.int .i64 a1_0, .int .i64 a1_1] 2
(let h3 : H := H.new h2 [.int .i64 0, .int .i64 0] 2
((rdT (.leaf (.int .i64)) h3 (.hp h.next 2 0)).bind fun x4 =>
((rdT (.leaf (.int .i64)) h3 (.hp h1.next 2 0)).bind fun x5 =>
((rdT (.leaf (.int .i64)) h3 (.hp h.next 2 1)).bind fun x6 =>
((rdT (.leaf (.int .i64)) h3 (.hp h1.next 2 1)).bind fun x7 =>
((H.wrs h3 (.hp h2.next 2 0) [.int .i64 (IntKind.wrap .i64 (x4 - x5)), .int .i64 (IntKind.wrap .i64 (x6 - x7))]).bind fun h8 =>
((rdT (.agg [.int .i64, .int .i64]) h8 (.hp h2.next 2 0 : V)).bind fun (x9_0, x9_1) =>
(some ((x9_0, x9_1), h8)))))))))))))
def spileref21_Minus.A : Ann := { lits := [], conds := [], loops := [], regs := [] }
theorem spileref21_Minus.eq : ∀ (x : TT [.agg [.int .i64, .int .i64], .agg [.int .i64, .int .i64]]) (h : H), evalFn Try.prog (spileref21_Minus.tb) spileref21_Minus.A Try.f77 (.one (.agg [.int .i64, .int .i64])) (TT.un [.agg [.int .i64, .int .i64], .agg [.int .i64, .int .i64]] x) h = spileref21_Minus x.1 x.2 h := by
  intro x h
  kernel_rfl
noncomputable def spileref21_Minus.e : Entry := mkX [.agg [.int .i64, .int .i64], .agg [.int .i64, .int .i64]] (.one (.agg [.int .i64, .int .i64])) fun x h => spileref21_Minus x.1 x.2 h
theorem spileref21_Minus.ok : EntryOK Try.prog 77 (spileref21_Minus.e) := mkX_ok (spileref21_Minus.tbok) Try.mixed Try.func77 (by kernel_rfl) (spileref21_Minus.eq)
noncomputable def spileref21_MinusP (a0 : (Int × Int)) (a1 : (Int × Int)) : Option ((Int × Int)) := (spileref21_Minus a0 a1 H.empty).bind fun p => rdRes false p.2 (.one (.agg [.int .i64, .int .i64])) (Res.un (.one (.agg [.int .i64, .int .i64])) p.1)
theorem spileref21_MinusP.eq : ∀ x : TT [.agg [.int .i64, .int .i64], .agg [.int .i64, .int .i64]], ((evalFn Try.prog (spileref21_Minus.tb) spileref21_Minus.A Try.f77 (.one (.agg [.int .i64, .int .i64])) (TT.lo false [.agg [.int .i64, .int .i64], .agg [.int .i64, .int .i64]] x) H.empty).bind fun p => rdRes false p.2 (.one (.agg [.int .i64, .int .i64])) (Res.un (.one (.agg [.int .i64, .int .i64])) p.1)) = spileref21_MinusP x.1 x.2 := by
  intro x
  rw [show TT.lo false [.agg [.int .i64, .int .i64], .agg [.int .i64, .int .i64]] x = TT.un [.agg [.int .i64, .int .i64], .agg [.int .i64, .int .i64]] (x.1, x.2) from rfl, spileref21_Minus.eq]
  rfl
noncomputable def spileref21_MinusP.e : Entry := mkP [.agg [.int .i64, .int .i64], .agg [.int .i64, .int .i64]] (.one (.agg [.int .i64, .int .i64])) fun x => spileref21_MinusP x.1 x.2
theorem spileref21_MinusP.ok : EntryOK Try.prog 77 (spileref21_MinusP.e) := mkP_ok (spileref21_Minus.tbok) Try.mixed Try.func77 (by kernel_rfl) spileref21_MinusP.eq

/-! ### spile/spileref23.Part: function 55 -/
noncomputable def spileref23_Part.tb : Table := tab [(41, spileref23_takeP.e), (76, spileref21_TakeP.e), (77, spileref21_MinusP.e)] [] Table.nil
theorem spileref23_Part.tbok : TabOK Try.prog (spileref23_Part.tb) := TabOK.tab (TabOK.nil Try.prog) (all_cons spileref23_takeP.ok (all_cons spileref21_TakeP.ok (all_cons spileref21_MinusP.ok (all_nil _)))) (all_nil _)
noncomputable def spileref23_Part (a0 : (Int × Int × Int × SV)) (a1 : Int) (a2 : Int) (h : H) : Option (((Int × Int × Int × SV) × (Int × Int × Int × SV)) × H) :=
(match a0 with
| (a0_0, a0_1, a0_2, a0_3) =>
(let h1 : H := H.new h [.int .i64 a0_0, .int .i64 a0_1, .int .i64 a0_2, .slice a0_3.a a0_3.len a0_3.cap a0_3.tail] 4
(let h2 : H := H.new h1 [.int .i64 0, .int .i64 0, .int .i64 0, .slice .nil 0 0 false] 4
(let h3 : H := H.new h2 [.int .i64 0, .int .i64 0, .int .i64 0, .slice .nil 0 0 false] 4
((rdT (.agg [.int .i64, .int .i64]) h3 (.hp h.next 4 1)).bind fun (x4_0, x4_1) =>
((spileref21_TakeP (x4_0, x4_1) a1).bind fun (r5_0, r5_1) =>
(let h6 : H := H.new h3 [.int .i64 0, .int .i64 0] 2
((H.wrs h6 (.hp h3.next 2 0) [.int .i64 r5_0, .int .i64 r5_1]).bind fun h7 =>
((rdT (.leaf .slice) h7 (.hp h.next 4 3)).bind fun x8 =>
((rdT (.leaf (.int .i64)) h7 (.hp h3.next 2 0)).bind fun x9 =>
((rdRow true h7 [.int .i64, .int .i64] x8).bind fun s12 =>
((spileref23_takeP s12 x9).bind fun (r10, r11) =>
(let h13 : H := H.reserve h7 0
((rdT (.agg [.int .i64, .int .i64]) h13 (.hp h3.next 2 0)).bind fun (x14_0, x14_1) =>
((rdT (.leaf (.int .i64)) h13 (.hp h.next 4 0)).bind fun x15 =>
((rdT (.agg [.int .i64, .int .i64]) h13 (.hp h.next 4 1)).bind fun (x16_0, x16_1) =>
((rdT (.agg [.int .i64, .int .i64]) h13 (.hp h3.next 2 0)).bind fun (x17_0, x17_1) =>
((spileref21_MinusP (x16_0, x16_1) (x17_0, x17_1)).bind fun (r18_0, r18_1) =>
((H.wrs h13 (.hp h1.next 4 0) [.int .i64 a2, .int .i64 x14_0, .int .i64 x14_1, .slice ((rowSV true [.int .i64, .int .i64] r10).a) r10.length r10.length true]).bind fun h19 =>
((H.wrs h19 (.hp h2.next 4 0) [.int .i64 x15, .int .i64 r18_0, .int .i64 r18_1, .slice ((rowSV true [.int .i64, .int .i64] r11).a) r11.length r11.length true]).bind fun h20 =>
(guardO (apartA (.hp h.next 4 0 : V) (.hp h1.next 4 0 : V) = true) ((rdT (.agg [.int .i64, .int .i64, .int .i64, .slice]) h20 (.hp h1.next 4 0 : V)).bind fun (x21_0, x21_1, x21_2, x21_3) =>
((rdT (.agg [.int .i64, .int .i64, .int .i64, .slice]) h20 (.hp h2.next 4 0 : V)).bind fun (x22_0, x22_1, x22_2, x22_3) =>
(some (((x21_0, x21_1, x21_2, x21_3), (x22_0, x22_1, x22_2, x22_3)), h20)))))))))))))))))))))))))
def spileref23_Part.A : Ann := { lits := [], conds := [], loops := [], regs := [] }
theorem spileref23_Part.eq : ∀ (x : TT [.agg [.int .i64, .int .i64, .int .i64, .slice], .leaf (.int .i64), .leaf (.int .i64)]) (h : H), evalFn Try.prog (spileref23_Part.tb) spileref23_Part.A Try.f55 (.many [.agg [.int .i64, .int .i64, .int .i64, .slice], .agg [.int .i64, .int .i64, .int .i64, .slice]]) (TT.un [.agg [.int .i64, .int .i64, .int .i64, .slice], .leaf (.int .i64), .leaf (.int .i64)] x) h = spileref23_Part x.1 x.2.1 x.2.2 h := by
  intro x h
  kernel_rfl
noncomputable def spileref23_Part.e : Entry := mkX [.agg [.int .i64, .int .i64, .int .i64, .slice], .leaf (.int .i64), .leaf (.int .i64)] (.many [.agg [.int .i64, .int .i64, .int .i64, .slice], .agg [.int .i64, .int .i64, .int .i64, .slice]]) fun x h => spileref23_Part x.1 x.2.1 x.2.2 h
theorem spileref23_Part.ok : EntryOK Try.prog 55 (spileref23_Part.e) := mkX_ok (spileref23_Part.tbok) Try.mixed Try.func55 (by kernel_rfl) (spileref23_Part.eq)
noncomputable def spileref23_PartP (a0 : (Int × Int × Int × (List (Int × Int)))) (a1 : Int) (a2 : Int) : Option ((Int × Int × Int × (List (Int × Int))) × (Int × Int × Int × (List (Int × Int)))) := (spileref23_Part (a0.1, a0.2.1, a0.2.2.1, rowSV false [.int .i64, .int .i64] a0.2.2.2) a1 a2 H.empty).bind fun p => rdRes false p.2 (.many [.agg [.int .i64, .int .i64, .int .i64, .row [.int .i64, .int .i64]], .agg [.int .i64, .int .i64, .int .i64, .row [.int .i64, .int .i64]]]) (Res.un (.many [.agg [.int .i64, .int .i64, .int .i64, .slice], .agg [.int .i64, .int .i64, .int .i64, .slice]]) p.1)
theorem spileref23_PartP.eq : ∀ x : TT [.agg [.int .i64, .int .i64, .int .i64, .row [.int .i64, .int .i64]], .leaf (.int .i64), .leaf (.int .i64)], ((evalFn Try.prog (spileref23_Part.tb) spileref23_Part.A Try.f55 (.many [.agg [.int .i64, .int .i64, .int .i64, .slice], .agg [.int .i64, .int .i64, .int .i64, .slice]]) (TT.lo false [.agg [.int .i64, .int .i64, .int .i64, .row [.int .i64, .int .i64]], .leaf (.int .i64), .leaf (.int .i64)] x) H.empty).bind fun p => rdRes false p.2 (.many [.agg [.int .i64, .int .i64, .int .i64, .row [.int .i64, .int .i64]], .agg [.int .i64, .int .i64, .int .i64, .row [.int .i64, .int .i64]]]) (Res.un (.many [.agg [.int .i64, .int .i64, .int .i64, .slice], .agg [.int .i64, .int .i64, .int .i64, .slice]]) p.1)) = spileref23_PartP x.1 x.2.1 x.2.2 := by
  intro x
  rw [show TT.lo false [.agg [.int .i64, .int .i64, .int .i64, .row [.int .i64, .int .i64]], .leaf (.int .i64), .leaf (.int .i64)] x = TT.un [.agg [.int .i64, .int .i64, .int .i64, .slice], .leaf (.int .i64), .leaf (.int .i64)] ((x.1.1, x.1.2.1, x.1.2.2.1, rowSV false [.int .i64, .int .i64] x.1.2.2.2), x.2.1, x.2.2) from rfl, spileref23_Part.eq]
  rfl
noncomputable def spileref23_PartP.e : Entry := mkP [.agg [.int .i64, .int .i64, .int .i64, .row [.int .i64, .int .i64]], .leaf (.int .i64), .leaf (.int .i64)] (.many [.agg [.int .i64, .int .i64, .int .i64, .row [.int .i64, .int .i64]], .agg [.int .i64, .int .i64, .int .i64, .row [.int .i64, .int .i64]]]) fun x => spileref23_PartP x.1 x.2.1 x.2.2
theorem spileref23_PartP.ok : EntryOK Try.prog 55 (spileref23_PartP.e) := mkP_ok (spileref23_Part.tbok) Try.mixed Try.func55 (by kernel_rfl) spileref23_PartP.eq

/-! ### spile/spileref23.Draw: function 32 -/
noncomputable def spileref23_Draw.tb : Table := tab [(53, spileref22_RightP.e), (54, spileref22_IDP.e), (55, spileref23_PartP.e)] [] Table.nil
theorem spileref23_Draw.tbok : TabOK Try.prog (spileref23_Draw.tb) := TabOK.tab (TabOK.nil Try.prog) (all_cons spileref22_RightP.ok (all_cons spileref22_IDP.ok (all_cons spileref23_PartP.ok (all_nil _)))) (all_nil _)
noncomputable def spileref23_Draw (a0 : (Int × Int × Int × SV)) (a1 : Int) (a2 : Int) (h : H) : Option (((Int × Int × Int × SV) × (Int × Int × Int × SV) × Int) × H) :=
(match a0 with
| (a0_0, a0_1, a0_2, a0_3) =>
(let h1 : H := H.new h [.int .i64 a0_0, .int .i64 a0_1, .int .i64 a0_2, .slice a0_3.a a0_3.len a0_3.cap a0_3.tail] 4
(let h2 : H := H.new h1 [.int .i64 0, .int .i64 0, .int .i64 0, .slice .nil 0 0 false] 4
(let h3 : H := H.new h2 [.int .i64 0, .int .i64 0, .int .i64 0, .slice .nil 0 0 false] 4
((rdT (.agg [.int .i64, .int .i64, .int .i64, .slice]) h3 (.hp h.next 4 0)).bind fun (x4_0, x4_1, x4_2, x4_3) =>
((rdRow true h3 [.int .i64, .int .i64, .int .i64, .row [.int .i64, .int .i64]] ⟨.lp true ([.int .i64 x4_0, .int .i64 x4_1, .int .i64 x4_2, .slice x4_3.a x4_3.len x4_3.cap x4_3.tail]) 0, 1, 1, false⟩).bind fun s6 =>
((spileref22_RightP s6).bind fun r5 =>
(bif (!r5) then ((H.wrs h3 (.hp h1.next 4 0) [.int .i64 0, .int .i64 0, .int .i64 0, .slice .nil 0 0 false]).bind fun h7 =>
((H.wrs h7 (.hp h2.next 4 0) [.int .i64 0, .int .i64 0, .int .i64 0, .slice .nil 0 0 false]).bind fun h8 =>
((rdT (.agg [.int .i64, .int .i64, .int .i64, .slice]) h8 (.hp h1.next 4 0 : V)).bind fun (x9_0, x9_1, x9_2, x9_3) =>
((rdT (.agg [.int .i64, .int .i64, .int .i64, .slice]) h8 (.hp h2.next 4 0 : V)).bind fun (x10_0, x10_1, x10_2, x10_3) =>
(some (((x9_0, x9_1, x9_2, x9_3), (x10_0, x10_1, x10_2, x10_3), 1), h8)))))) else ((((spileref22_IDP a2).bind fun r11 =>
(bif !(!r11) then (some ((decide (a1 < 0)), h3)) else (some (true, h3))))).bind fun (y12, h13) =>
(bif y12 then ((H.wrs h13 (.hp h1.next 4 0) [.int .i64 0, .int .i64 0, .int .i64 0, .slice .nil 0 0 false]).bind fun h14 =>
((H.wrs h14 (.hp h2.next 4 0) [.int .i64 0, .int .i64 0, .int .i64 0, .slice .nil 0 0 false]).bind fun h15 =>
((rdT (.agg [.int .i64, .int .i64, .int .i64, .slice]) h15 (.hp h1.next 4 0 : V)).bind fun (x16_0, x16_1, x16_2, x16_3) =>
((rdT (.agg [.int .i64, .int .i64, .int .i64, .slice]) h15 (.hp h2.next 4 0 : V)).bind fun (x17_0, x17_1, x17_2, x17_3) =>
(some (((x16_0, x16_1, x16_2, x16_3), (x17_0, x17_1, x17_2, x17_3), 2), h15)))))) else ((rdT (.leaf (.int .i64)) h13 (.hp h.next 4 2)).bind fun x18 =>
(bif (decide (x18 < a1)) then ((H.wrs h13 (.hp h1.next 4 0) [.int .i64 0, .int .i64 0, .int .i64 0, .slice .nil 0 0 false]).bind fun h19 =>
((H.wrs h19 (.hp h2.next 4 0) [.int .i64 0, .int .i64 0, .int .i64 0, .slice .nil 0 0 false]).bind fun h20 =>
((rdT (.agg [.int .i64, .int .i64, .int .i64, .slice]) h20 (.hp h1.next 4 0 : V)).bind fun (x21_0, x21_1, x21_2, x21_3) =>
((rdT (.agg [.int .i64, .int .i64, .int .i64, .slice]) h20 (.hp h2.next 4 0 : V)).bind fun (x22_0, x22_1, x22_2, x22_3) =>
(some (((x21_0, x21_1, x21_2, x21_3), (x22_0, x22_1, x22_2, x22_3), 17), h20)))))) else ((rdT (.agg [.int .i64, .int .i64, .int .i64, .slice]) h13 (.hp h.next 4 0)).bind fun (x23_0, x23_1, x23_2, x23_3) =>
((rdRow true h13 [.int .i64, .int .i64] x23_3).bind fun s26 =>
((spileref23_PartP (x23_0, x23_1, x23_2, s26) a1 a2).bind fun ((r24_0, r24_1, r24_2, r24_3), (r25_0, r25_1, r25_2, r25_3)) =>
(let h27 : H := H.new h13 [.int .i64 0, .int .i64 0, .int .i64 0, .slice .nil 0 0 false] 4
(let h28 : H := H.new h27 [.int .i64 0, .int .i64 0, .int .i64 0, .slice .nil 0 0 false] 4
((H.wrs h28 (.hp h13.next 4 0) [.int .i64 r24_0, .int .i64 r24_1, .int .i64 r24_2, .slice ((rowSV true [.int .i64, .int .i64] r24_3).a) r24_3.length r24_3.length true]).bind fun h29 =>
((H.wrs h29 (.hp h27.next 4 0) [.int .i64 r25_0, .int .i64 r25_1, .int .i64 r25_2, .slice ((rowSV true [.int .i64, .int .i64] r25_3).a) r25_3.length r25_3.length true]).bind fun h30 =>
(let h31 : H := H.reserve h30 0
((rdT (.agg [.int .i64, .int .i64, .int .i64, .slice]) h31 (.hp h13.next 4 0)).bind fun (x32_0, x32_1, x32_2, x32_3) =>
((rdT (.agg [.int .i64, .int .i64, .int .i64, .slice]) h31 (.hp h27.next 4 0)).bind fun (x33_0, x33_1, x33_2, x33_3) =>
((H.wrs h31 (.hp h1.next 4 0) [.int .i64 x32_0, .int .i64 x32_1, .int .i64 x32_2, .slice x32_3.a x32_3.len x32_3.cap x32_3.tail]).bind fun h34 =>
((H.wrs h34 (.hp h2.next 4 0) [.int .i64 x33_0, .int .i64 x33_1, .int .i64 x33_2, .slice x33_3.a x33_3.len x33_3.cap x33_3.tail]).bind fun h35 =>
(guardO (apartA (.hp h27.next 4 0 : V) (.hp h1.next 4 0 : V) = true) ((rdT (.agg [.int .i64, .int .i64, .int .i64, .slice]) h35 (.hp h1.next 4 0 : V)).bind fun (x36_0, x36_1, x36_2, x36_3) =>
((rdT (.agg [.int .i64, .int .i64, .int .i64, .slice]) h35 (.hp h2.next 4 0 : V)).bind fun (x37_0, x37_1, x37_2, x37_3) =>
(some (((x36_0, x36_1, x36_2, x36_3), (x37_0, x37_1, x37_2, x37_3), 0), h35)))))))))))))))))))))))))))))
def spileref23_Draw.A : Ann := { lits := [], conds := [], loops := [], regs := [(3, [23], [.leaf .bool])] }
theorem spileref23_Draw.eq : ∀ (x : TT [.agg [.int .i64, .int .i64, .int .i64, .slice], .leaf (.int .i64), .leaf (.int .i64)]) (h : H), evalFn Try.prog (spileref23_Draw.tb) spileref23_Draw.A Try.f32 (.many [.agg [.int .i64, .int .i64, .int .i64, .slice], .agg [.int .i64, .int .i64, .int .i64, .slice], .leaf (.int .i64)]) (TT.un [.agg [.int .i64, .int .i64, .int .i64, .slice], .leaf (.int .i64), .leaf (.int .i64)] x) h = spileref23_Draw x.1 x.2.1 x.2.2 h := by
  intro x h
  kernel_rfl
noncomputable def spileref23_Draw.e : Entry := mkX [.agg [.int .i64, .int .i64, .int .i64, .slice], .leaf (.int .i64), .leaf (.int .i64)] (.many [.agg [.int .i64, .int .i64, .int .i64, .slice], .agg [.int .i64, .int .i64, .int .i64, .slice], .leaf (.int .i64)]) fun x h => spileref23_Draw x.1 x.2.1 x.2.2 h
theorem spileref23_Draw.ok : EntryOK Try.prog 32 (spileref23_Draw.e) := mkX_ok (spileref23_Draw.tbok) Try.mixed Try.func32 (by kernel_rfl) (spileref23_Draw.eq)
noncomputable def spileref23_DrawP (a0 : (Int × Int × Int × (List (Int × Int)))) (a1 : Int) (a2 : Int) : Option ((Int × Int × Int × (List (Int × Int))) × (Int × Int × Int × (List (Int × Int))) × Int) := (spileref23_Draw (a0.1, a0.2.1, a0.2.2.1, rowSV false [.int .i64, .int .i64] a0.2.2.2) a1 a2 H.empty).bind fun p => rdRes false p.2 (.many [.agg [.int .i64, .int .i64, .int .i64, .row [.int .i64, .int .i64]], .agg [.int .i64, .int .i64, .int .i64, .row [.int .i64, .int .i64]], .leaf (.int .i64)]) (Res.un (.many [.agg [.int .i64, .int .i64, .int .i64, .slice], .agg [.int .i64, .int .i64, .int .i64, .slice], .leaf (.int .i64)]) p.1)
theorem spileref23_DrawP.eq : ∀ x : TT [.agg [.int .i64, .int .i64, .int .i64, .row [.int .i64, .int .i64]], .leaf (.int .i64), .leaf (.int .i64)], ((evalFn Try.prog (spileref23_Draw.tb) spileref23_Draw.A Try.f32 (.many [.agg [.int .i64, .int .i64, .int .i64, .slice], .agg [.int .i64, .int .i64, .int .i64, .slice], .leaf (.int .i64)]) (TT.lo false [.agg [.int .i64, .int .i64, .int .i64, .row [.int .i64, .int .i64]], .leaf (.int .i64), .leaf (.int .i64)] x) H.empty).bind fun p => rdRes false p.2 (.many [.agg [.int .i64, .int .i64, .int .i64, .row [.int .i64, .int .i64]], .agg [.int .i64, .int .i64, .int .i64, .row [.int .i64, .int .i64]], .leaf (.int .i64)]) (Res.un (.many [.agg [.int .i64, .int .i64, .int .i64, .slice], .agg [.int .i64, .int .i64, .int .i64, .slice], .leaf (.int .i64)]) p.1)) = spileref23_DrawP x.1 x.2.1 x.2.2 := by
  intro x
  rw [show TT.lo false [.agg [.int .i64, .int .i64, .int .i64, .row [.int .i64, .int .i64]], .leaf (.int .i64), .leaf (.int .i64)] x = TT.un [.agg [.int .i64, .int .i64, .int .i64, .slice], .leaf (.int .i64), .leaf (.int .i64)] ((x.1.1, x.1.2.1, x.1.2.2.1, rowSV false [.int .i64, .int .i64] x.1.2.2.2), x.2.1, x.2.2) from rfl, spileref23_Draw.eq]
  rfl
noncomputable def spileref23_DrawP.e : Entry := mkP [.agg [.int .i64, .int .i64, .int .i64, .row [.int .i64, .int .i64]], .leaf (.int .i64), .leaf (.int .i64)] (.many [.agg [.int .i64, .int .i64, .int .i64, .row [.int .i64, .int .i64]], .agg [.int .i64, .int .i64, .int .i64, .row [.int .i64, .int .i64]], .leaf (.int .i64)]) fun x => spileref23_DrawP x.1 x.2.1 x.2.2
theorem spileref23_DrawP.ok : EntryOK Try.prog 32 (spileref23_DrawP.e) := mkP_ok (spileref23_Draw.tbok) Try.mixed Try.func32 (by kernel_rfl) spileref23_DrawP.eq

/-! ### spile/spileref21.Plus: function 56 -/
noncomputable def spileref21_Plus.tb : Table := tab [] [] Table.nil
theorem spileref21_Plus.tbok : TabOK Try.prog (spileref21_Plus.tb) := TabOK.tab (TabOK.nil Try.prog) (all_nil _) (all_nil _)
noncomputable def spileref21_Plus (a0 : (Int × Int)) (a1 : (Int × Int)) (h : H) : Option (((Int × Int)) × H) :=
(match a0 with
| (a0_0, a0_1) =>
(match a1 with
| (a1_0, a1_1) =>
(let h1 : H := H.new h [.int .i64 a0_0, .int .i64 a0_1] 2
(let h2 : H := H.new h1 [.int .i64 a1_0, .int .i64 a1_1] 2
(let h3 : H := H.new h2 [.int .i64 0, .int .i64 0] 2
((rdT (.leaf (.int .i64)) h3 (.hp h.next 2 0)).bind fun x4 =>
((rdT (.leaf (.int .i64)) h3 (.hp h1.next 2 0)).bind fun x5 =>
((rdT (.leaf (.int .i64)) h3 (.hp h.next 2 1)).bind fun x6 =>
((rdT (.leaf (.int .i64)) h3 (.hp h1.next 2 1)).bind fun x7 =>
((H.wrs h3 (.hp h2.next 2 0) [.int .i64 (IntKind.wrap .i64 (x4 + x5)), .int .i64 (IntKind.wrap .i64 (x6 + x7))]).bind fun h8 =>
((rdT (.agg [.int .i64, .int .i64]) h8 (.hp h2.next 2 0 : V)).bind fun (x9_0, x9_1) =>
(some ((x9_0, x9_1), h8)))))))))))))
def spileref21_Plus.A : Ann := { lits := [], conds := [], loops := [], regs := [] }
theorem spileref21_Plus.eq : ∀ (x : TT [.agg [.int .i64, .int .i64], .agg [.int .i64, .int .i64]]) (h : H), evalFn Try.prog (spileref21_Plus.tb) spileref21_Plus.A Try.f56 (.one (.agg [.int .i64, .int .i64])) (TT.un [.agg [.int .i64, .int .i64], .agg [.int .i64, .int .i64]] x) h = spileref21_Plus x.1 x.2 h := by
  intro x h
  kernel_rfl
noncomputable def spileref21_Plus.e : Entry := mkX [.agg [.int .i64, .int .i64], .agg [.int .i64, .int .i64]] (.one (.agg [.int .i64, .int .i64])) fun x h => spileref21_Plus x.1 x.2 h
theorem spileref21_Plus.ok : EntryOK Try.prog 56 (spileref21_Plus.e) := mkX_ok (spileref21_Plus.tbok) Try.mixed Try.func56 (by kernel_rfl) (spileref21_Plus.eq)
noncomputable def spileref21_PlusP (a0 : (Int × Int)) (a1 : (Int × Int)) : Option ((Int × Int)) := (spileref21_Plus a0 a1 H.empty).bind fun p => rdRes false p.2 (.one (.agg [.int .i64, .int .i64])) (Res.un (.one (.agg [.int .i64, .int .i64])) p.1)
theorem spileref21_PlusP.eq : ∀ x : TT [.agg [.int .i64, .int .i64], .agg [.int .i64, .int .i64]], ((evalFn Try.prog (spileref21_Plus.tb) spileref21_Plus.A Try.f56 (.one (.agg [.int .i64, .int .i64])) (TT.lo false [.agg [.int .i64, .int .i64], .agg [.int .i64, .int .i64]] x) H.empty).bind fun p => rdRes false p.2 (.one (.agg [.int .i64, .int .i64])) (Res.un (.one (.agg [.int .i64, .int .i64])) p.1)) = spileref21_PlusP x.1 x.2 := by
  intro x
  rw [show TT.lo false [.agg [.int .i64, .int .i64], .agg [.int .i64, .int .i64]] x = TT.un [.agg [.int .i64, .int .i64], .agg [.int .i64, .int .i64]] (x.1, x.2) from rfl, spileref21_Plus.eq]
  rfl
noncomputable def spileref21_PlusP.e : Entry := mkP [.agg [.int .i64, .int .i64], .agg [.int .i64, .int .i64]] (.one (.agg [.int .i64, .int .i64])) fun x => spileref21_PlusP x.1 x.2
theorem spileref21_PlusP.ok : EntryOK Try.prog 56 (spileref21_PlusP.e) := mkP_ok (spileref21_Plus.tbok) Try.mixed Try.func56 (by kernel_rfl) spileref21_PlusP.eq
end Go.Proofs.Ytbcpdecgfdlaaaa
