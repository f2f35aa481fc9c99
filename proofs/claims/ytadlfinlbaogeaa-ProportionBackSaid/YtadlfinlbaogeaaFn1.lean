/- The functions of the program as Lean functions, each with the equation by which the evaluator is that function. Written by a program of this session (evdrive.py). Conditions: none. -/
import Derived.Test.YtadlfinlbaogeaaProg
import Derived.Test.YtadlfinlbaogeaaEvSpec
import Derived.Test.YtadlfinlbaogeaaFn0
namespace Go.Proofs.Ytadlfinlbaogeaa
open Go Go.Proofs.Ytadlfinlbaogeaa.Ev
set_option maxRecDepth 100000
set_option linter.unusedVariables false
/-! ### spile/proportion.divided: function 51 -/
noncomputable def proportion_divided.tb : Table := tab [(54, proportion_productP.e), (79, math_bits_Div64P.e)] [] Table.nil
theorem proportion_divided.tbok : TabOK Try.prog (proportion_divided.tb) := TabOK.tab (TabOK.nil Try.prog) (all_cons proportion_productP.ok (all_cons math_bits_Div64P.ok (all_nil _))) (all_nil _)
noncomputable def proportion_divided (a0 : Int) (a1 : Int) (a2 : Int) (h : H) : Option ((Int × Int × Bool) × H) :=
((proportion_productP a0 a1).bind fun (r1_0, r1_1) =>
(let h2 : H := H.new h [.int .u64 0, .int .u64 0] 2
((H.wrs h2 (.hp h.next 2 0) [.int .u64 r1_0, .int .u64 r1_1]).bind fun h3 =>
((rdT (.leaf (.int .u64)) h3 (.hp h.next 2 0)).bind fun x4 =>
(bif (decide ((IntKind.wrap .u64 (a2)) ≤ x4)) then (some ((0, 0, false), h3)) else ((rdT (.leaf (.int .u64)) h3 (.hp h.next 2 0)).bind fun x5 =>
((rdT (.leaf (.int .u64)) h3 (.hp h.next 2 1)).bind fun x6 =>
((math_bits_Div64P x5 x6 (IntKind.wrap .u64 (a2))).bind fun (r7, r8) =>
(bif (decide ((128849018880000 : Int) < r7)) then (some ((0, 0, false), h3)) else (some (((IntKind.wrap .i64 (r7)), (IntKind.wrap .i64 (r8)), true), h3)))))))))))
def proportion_divided.A : Ann := { lits := [], conds := [], loops := [], regs := [] }
theorem proportion_divided.eq : ∀ (x : TT [.leaf (.int .i64), .leaf (.int .i64), .leaf (.int .i64)]) (h : H), evalFn Try.prog (proportion_divided.tb) proportion_divided.A Try.f51 (.many [.leaf (.int .i64), .leaf (.int .i64), .leaf .bool]) (TT.un [.leaf (.int .i64), .leaf (.int .i64), .leaf (.int .i64)] x) h = proportion_divided x.1 x.2.1 x.2.2 h := by
  intro x h
  kernel_rfl
noncomputable def proportion_divided.e : Entry := mkX [.leaf (.int .i64), .leaf (.int .i64), .leaf (.int .i64)] (.many [.leaf (.int .i64), .leaf (.int .i64), .leaf .bool]) fun x h => proportion_divided x.1 x.2.1 x.2.2 h
theorem proportion_divided.ok : EntryOK Try.prog 51 (proportion_divided.e) := mkX_ok (proportion_divided.tbok) Try.mixed Try.func51 (by kernel_rfl) (proportion_divided.eq)
noncomputable def proportion_dividedP (a0 : Int) (a1 : Int) (a2 : Int) : Option (Int × Int × Bool) := (proportion_divided a0 a1 a2 H.empty).bind fun p => rdRes false p.2 (.many [.leaf (.int .i64), .leaf (.int .i64), .leaf .bool]) (Res.un (.many [.leaf (.int .i64), .leaf (.int .i64), .leaf .bool]) p.1)
theorem proportion_dividedP.eq : ∀ x : TT [.leaf (.int .i64), .leaf (.int .i64), .leaf (.int .i64)], ((evalFn Try.prog (proportion_divided.tb) proportion_divided.A Try.f51 (.many [.leaf (.int .i64), .leaf (.int .i64), .leaf .bool]) (TT.lo false [.leaf (.int .i64), .leaf (.int .i64), .leaf (.int .i64)] x) H.empty).bind fun p => rdRes false p.2 (.many [.leaf (.int .i64), .leaf (.int .i64), .leaf .bool]) (Res.un (.many [.leaf (.int .i64), .leaf (.int .i64), .leaf .bool]) p.1)) = proportion_dividedP x.1 x.2.1 x.2.2 := by
  intro x
  rw [show TT.lo false [.leaf (.int .i64), .leaf (.int .i64), .leaf (.int .i64)] x = TT.un [.leaf (.int .i64), .leaf (.int .i64), .leaf (.int .i64)] (x.1, x.2.1, x.2.2) from rfl, proportion_divided.eq]
  rfl
noncomputable def proportion_dividedP.e : Entry := mkP [.leaf (.int .i64), .leaf (.int .i64), .leaf (.int .i64)] (.many [.leaf (.int .i64), .leaf (.int .i64), .leaf .bool]) fun x => proportion_dividedP x.1 x.2.1 x.2.2
theorem proportion_dividedP.ok : EntryOK Try.prog 51 (proportion_dividedP.e) := mkP_ok (proportion_divided.tbok) Try.mixed Try.func51 (by kernel_rfl) proportion_dividedP.eq

/-! ### spile/proportion.Of: function 16 -/
noncomputable def proportion_Of.tb : Table := tab [(50, proportion_amountsP.e), (51, proportion_dividedP.e)] [] Table.nil
theorem proportion_Of.tbok : TabOK Try.prog (proportion_Of.tb) := TabOK.tab (TabOK.nil Try.prog) (all_cons proportion_amountsP.ok (all_cons proportion_dividedP.ok (all_nil _))) (all_nil _)
noncomputable def proportion_Of (a0 : Int) (a1 : Int) (a2 : Int) (h : H) : Option ((Int × Int × Int) × H) :=
((rdRow true h [.int .i64] ⟨.lp true ([.int .i64 a0, .int .i64 a1, .int .i64 a2]) 0, 3, 3, false⟩).bind fun s2 =>
((proportion_amountsP s2).bind fun r1 =>
(bif (!r1) then (some ((0, 0, 2), h)) else (bif (decide (a2 = 0)) then (some ((0, 0, 16), h)) else ((proportion_dividedP a0 a1 a2).bind fun (r3, r4, r5) =>
(bif (!r5) then (some ((0, 0, 15), h)) else (some ((r3, r4, 0), h))))))))
def proportion_Of.A : Ann := { lits := [], conds := [], loops := [], regs := [] }
theorem proportion_Of.eq : ∀ (x : TT [.leaf (.int .i64), .leaf (.int .i64), .leaf (.int .i64)]) (h : H), evalFn Try.prog (proportion_Of.tb) proportion_Of.A Try.f16 (.many [.leaf (.int .i64), .leaf (.int .i64), .leaf (.int .i64)]) (TT.un [.leaf (.int .i64), .leaf (.int .i64), .leaf (.int .i64)] x) h = proportion_Of x.1 x.2.1 x.2.2 h := by
  intro x h
  kernel_rfl
noncomputable def proportion_Of.e : Entry := mkX [.leaf (.int .i64), .leaf (.int .i64), .leaf (.int .i64)] (.many [.leaf (.int .i64), .leaf (.int .i64), .leaf (.int .i64)]) fun x h => proportion_Of x.1 x.2.1 x.2.2 h
theorem proportion_Of.ok : EntryOK Try.prog 16 (proportion_Of.e) := mkX_ok (proportion_Of.tbok) Try.mixed Try.func16 (by kernel_rfl) (proportion_Of.eq)
noncomputable def proportion_OfP (a0 : Int) (a1 : Int) (a2 : Int) : Option (Int × Int × Int) := (proportion_Of a0 a1 a2 H.empty).bind fun p => rdRes false p.2 (.many [.leaf (.int .i64), .leaf (.int .i64), .leaf (.int .i64)]) (Res.un (.many [.leaf (.int .i64), .leaf (.int .i64), .leaf (.int .i64)]) p.1)
theorem proportion_OfP.eq : ∀ x : TT [.leaf (.int .i64), .leaf (.int .i64), .leaf (.int .i64)], ((evalFn Try.prog (proportion_Of.tb) proportion_Of.A Try.f16 (.many [.leaf (.int .i64), .leaf (.int .i64), .leaf (.int .i64)]) (TT.lo false [.leaf (.int .i64), .leaf (.int .i64), .leaf (.int .i64)] x) H.empty).bind fun p => rdRes false p.2 (.many [.leaf (.int .i64), .leaf (.int .i64), .leaf (.int .i64)]) (Res.un (.many [.leaf (.int .i64), .leaf (.int .i64), .leaf (.int .i64)]) p.1)) = proportion_OfP x.1 x.2.1 x.2.2 := by
  intro x
  rw [show TT.lo false [.leaf (.int .i64), .leaf (.int .i64), .leaf (.int .i64)] x = TT.un [.leaf (.int .i64), .leaf (.int .i64), .leaf (.int .i64)] (x.1, x.2.1, x.2.2) from rfl, proportion_Of.eq]
  rfl
noncomputable def proportion_OfP.e : Entry := mkP [.leaf (.int .i64), .leaf (.int .i64), .leaf (.int .i64)] (.many [.leaf (.int .i64), .leaf (.int .i64), .leaf (.int .i64)]) fun x => proportion_OfP x.1 x.2.1 x.2.2
theorem proportion_OfP.ok : EntryOK Try.prog 16 (proportion_OfP.e) := mkP_ok (proportion_Of.tbok) Try.mixed Try.func16 (by kernel_rfl) proportion_OfP.eq

/-! ### spile/proportion.Up: function 18 -/
noncomputable def proportion_Up.tb : Table := tab [(16, proportion_OfP.e)] [] Table.nil
theorem proportion_Up.tbok : TabOK Try.prog (proportion_Up.tb) := TabOK.tab (TabOK.nil Try.prog) (all_cons proportion_OfP.ok (all_nil _)) (all_nil _)
noncomputable def proportion_Up (a0 : Int) (a1 : Int) (a2 : Int) (h : H) : Option ((Int × Int) × H) :=
((proportion_OfP a0 a1 a2).bind fun (r1, r2, r3) =>
(bif (!(decide (r3 = 0))) then (some ((0, r3), h)) else ((bif (decide ((0 : Int) < r2)) then (some (.next (IntKind.wrap .i64 (r1 + 1)), h)) else (some (.next r1, h)) : Option (Flow (Int) (Int × Int) × H)).bind fun (fl5, h4) => match fl5 with
| .next y6 =>
(bif (decide ((128849018880000 : Int) < y6)) then (some ((0, 15), h4)) else (some ((y6, 0), h4)))
| .ret rr7 => (some (rr7, h4))
| .ex0 _ => none
| .ex1 _ => none)))
def proportion_Up.A : Ann := { lits := [], conds := [(23, [8], [.leaf (.int .i64)], none, none)], loops := [], regs := [] }
theorem proportion_Up.eq : ∀ (x : TT [.leaf (.int .i64), .leaf (.int .i64), .leaf (.int .i64)]) (h : H), evalFn Try.prog (proportion_Up.tb) proportion_Up.A Try.f18 (.many [.leaf (.int .i64), .leaf (.int .i64)]) (TT.un [.leaf (.int .i64), .leaf (.int .i64), .leaf (.int .i64)] x) h = proportion_Up x.1 x.2.1 x.2.2 h := by
  intro x h
  kernel_rfl
noncomputable def proportion_Up.e : Entry := mkX [.leaf (.int .i64), .leaf (.int .i64), .leaf (.int .i64)] (.many [.leaf (.int .i64), .leaf (.int .i64)]) fun x h => proportion_Up x.1 x.2.1 x.2.2 h
theorem proportion_Up.ok : EntryOK Try.prog 18 (proportion_Up.e) := mkX_ok (proportion_Up.tbok) Try.mixed Try.func18 (by kernel_rfl) (proportion_Up.eq)
noncomputable def proportion_UpP (a0 : Int) (a1 : Int) (a2 : Int) : Option (Int × Int) := (proportion_Up a0 a1 a2 H.empty).bind fun p => rdRes false p.2 (.many [.leaf (.int .i64), .leaf (.int .i64)]) (Res.un (.many [.leaf (.int .i64), .leaf (.int .i64)]) p.1)
theorem proportion_UpP.eq : ∀ x : TT [.leaf (.int .i64), .leaf (.int .i64), .leaf (.int .i64)], ((evalFn Try.prog (proportion_Up.tb) proportion_Up.A Try.f18 (.many [.leaf (.int .i64), .leaf (.int .i64)]) (TT.lo false [.leaf (.int .i64), .leaf (.int .i64), .leaf (.int .i64)] x) H.empty).bind fun p => rdRes false p.2 (.many [.leaf (.int .i64), .leaf (.int .i64)]) (Res.un (.many [.leaf (.int .i64), .leaf (.int .i64)]) p.1)) = proportion_UpP x.1 x.2.1 x.2.2 := by
  intro x
  rw [show TT.lo false [.leaf (.int .i64), .leaf (.int .i64), .leaf (.int .i64)] x = TT.un [.leaf (.int .i64), .leaf (.int .i64), .leaf (.int .i64)] (x.1, x.2.1, x.2.2) from rfl, proportion_Up.eq]
  rfl
noncomputable def proportion_UpP.e : Entry := mkP [.leaf (.int .i64), .leaf (.int .i64), .leaf (.int .i64)] (.many [.leaf (.int .i64), .leaf (.int .i64)]) fun x => proportion_UpP x.1 x.2.1 x.2.2
theorem proportion_UpP.ok : EntryOK Try.prog 18 (proportion_UpP.e) := mkP_ok (proportion_Up.tbok) Try.mixed Try.func18 (by kernel_rfl) proportion_UpP.eq

/-! ### cmp.isNaN[uint64]: function 88 -/
noncomputable def cmp_isNaN_uint64.tb : Table := tab [] [] Table.nil
theorem cmp_isNaN_uint64.tbok : TabOK Try.prog (cmp_isNaN_uint64.tb) := TabOK.tab (TabOK.nil Try.prog) (all_nil _) (all_nil _)
noncomputable def cmp_isNaN_uint64 (a0 : Int) (h : H) : Option ((Bool) × H) :=
(some ((!(decide (a0 = a0))), h))
def cmp_isNaN_uint64.A : Ann := { lits := [], conds := [], loops := [], regs := [] }
theorem cmp_isNaN_uint64.eq : ∀ (x : TT [.leaf (.int .u64)]) (h : H), evalFn Try.prog (cmp_isNaN_uint64.tb) cmp_isNaN_uint64.A Try.f88 (.one (.leaf .bool)) (TT.un [.leaf (.int .u64)] x) h = cmp_isNaN_uint64 x h := by
  intro x h
  kernel_rfl
noncomputable def cmp_isNaN_uint64.e : Entry := mkX [.leaf (.int .u64)] (.one (.leaf .bool)) fun x h => cmp_isNaN_uint64 x h
theorem cmp_isNaN_uint64.ok : EntryOK Try.prog 88 (cmp_isNaN_uint64.e) := mkX_ok (cmp_isNaN_uint64.tbok) Try.mixed Try.func88 (by kernel_rfl) (cmp_isNaN_uint64.eq)
noncomputable def cmp_isNaN_uint64P (a0 : Int) : Option (Bool) := (cmp_isNaN_uint64 a0 H.empty).bind fun p => rdRes false p.2 (.one (.leaf .bool)) (Res.un (.one (.leaf .bool)) p.1)
theorem cmp_isNaN_uint64P.eq : ∀ x : TT [.leaf (.int .u64)], ((evalFn Try.prog (cmp_isNaN_uint64.tb) cmp_isNaN_uint64.A Try.f88 (.one (.leaf .bool)) (TT.lo false [.leaf (.int .u64)] x) H.empty).bind fun p => rdRes false p.2 (.one (.leaf .bool)) (Res.un (.one (.leaf .bool)) p.1)) = cmp_isNaN_uint64P x := by
  intro x
  rw [show TT.lo false [.leaf (.int .u64)] x = TT.un [.leaf (.int .u64)] (x) from rfl, cmp_isNaN_uint64.eq]
  rfl
noncomputable def cmp_isNaN_uint64P.e : Entry := mkP [.leaf (.int .u64)] (.one (.leaf .bool)) fun x => cmp_isNaN_uint64P x
theorem cmp_isNaN_uint64P.ok : EntryOK Try.prog 88 (cmp_isNaN_uint64P.e) := mkP_ok (cmp_isNaN_uint64.tbok) Try.mixed Try.func88 (by kernel_rfl) cmp_isNaN_uint64P.eq

/-! ### cmp.Compare[uint64]: function 81 -/
noncomputable def cmp_Compare_uint64.tb : Table := tab [(88, cmp_isNaN_uint64P.e)] [] Table.nil
theorem cmp_Compare_uint64.tbok : TabOK Try.prog (cmp_Compare_uint64.tb) := TabOK.tab (TabOK.nil Try.prog) (all_cons cmp_isNaN_uint64P.ok (all_nil _)) (all_nil _)
noncomputable def cmp_Compare_uint64 (a0 : Int) (a1 : Int) (h : H) : Option ((Int) × H) :=
((cmp_isNaN_uint64P a0).bind fun r1 =>
((cmp_isNaN_uint64P a1).bind fun r2 =>
(bif r1 then (bif r2 then (some (0, h)) else (some ((-1), h))) else (bif r2 then (some (1, h)) else (bif (decide (a0 < a1)) then (some ((-1), h)) else (bif (decide (a1 < a0)) then (some (1, h)) else (some (0, h))))))))
def cmp_Compare_uint64.A : Ann := { lits := [], conds := [], loops := [], regs := [] }
theorem cmp_Compare_uint64.eq : ∀ (x : TT [.leaf (.int .u64), .leaf (.int .u64)]) (h : H), evalFn Try.prog (cmp_Compare_uint64.tb) cmp_Compare_uint64.A Try.f81 (.one (.leaf (.int .i64))) (TT.un [.leaf (.int .u64), .leaf (.int .u64)] x) h = cmp_Compare_uint64 x.1 x.2 h := by
  intro x h
  kernel_rfl
noncomputable def cmp_Compare_uint64.e : Entry := mkX [.leaf (.int .u64), .leaf (.int .u64)] (.one (.leaf (.int .i64))) fun x h => cmp_Compare_uint64 x.1 x.2 h
theorem cmp_Compare_uint64.ok : EntryOK Try.prog 81 (cmp_Compare_uint64.e) := mkX_ok (cmp_Compare_uint64.tbok) Try.mixed Try.func81 (by kernel_rfl) (cmp_Compare_uint64.eq)
noncomputable def cmp_Compare_uint64P (a0 : Int) (a1 : Int) : Option (Int) := (cmp_Compare_uint64 a0 a1 H.empty).bind fun p => rdRes false p.2 (.one (.leaf (.int .i64))) (Res.un (.one (.leaf (.int .i64))) p.1)
theorem cmp_Compare_uint64P.eq : ∀ x : TT [.leaf (.int .u64), .leaf (.int .u64)], ((evalFn Try.prog (cmp_Compare_uint64.tb) cmp_Compare_uint64.A Try.f81 (.one (.leaf (.int .i64))) (TT.lo false [.leaf (.int .u64), .leaf (.int .u64)] x) H.empty).bind fun p => rdRes false p.2 (.one (.leaf (.int .i64))) (Res.un (.one (.leaf (.int .i64))) p.1)) = cmp_Compare_uint64P x.1 x.2 := by
  intro x
  rw [show TT.lo false [.leaf (.int .u64), .leaf (.int .u64)] x = TT.un [.leaf (.int .u64), .leaf (.int .u64)] (x.1, x.2) from rfl, cmp_Compare_uint64.eq]
  rfl
noncomputable def cmp_Compare_uint64P.e : Entry := mkP [.leaf (.int .u64), .leaf (.int .u64)] (.one (.leaf (.int .i64))) fun x => cmp_Compare_uint64P x.1 x.2
theorem cmp_Compare_uint64P.ok : EntryOK Try.prog 81 (cmp_Compare_uint64P.e) := mkP_ok (cmp_Compare_uint64.tbok) Try.mixed Try.func81 (by kernel_rfl) cmp_Compare_uint64P.eq

/-! ### slices.Compare[[]uint64,uint64]: function 55 -/
noncomputable def slices_Compare_uint64_uint64.tb : Table := tab [(81, cmp_Compare_uint64P.e)] [] Table.nil
theorem slices_Compare_uint64_uint64.tbok : TabOK Try.prog (slices_Compare_uint64_uint64.tb) := TabOK.tab (TabOK.nil Try.prog) (all_cons cmp_Compare_uint64P.ok (all_nil _)) (all_nil _)
noncomputable def slices_Compare_uint64_uint64.loop1 (a0 : SV) (a1 : SV) : (Int) × H → Option (Stp ((Int) × H) (Flow (Unit) (Int) × H)) := fun (y1, h2) =>
(bif (decide (y1 < ((a0.len : Nat) : Int))) then (guardO (0 ≤ y1 ∧ y1 < ((a0.len : Nat) : Int)) ((rdT (.leaf (.int .u64)) h2 (V.add a0.a (Int.toNat y1 * 1))).bind fun x3 =>
(bif (decide (((a1.len : Nat) : Int) ≤ y1)) then (some (.done (.ret 1, h2))) else (guardO (0 ≤ y1 ∧ y1 < ((a1.len : Nat) : Int)) ((rdT (.leaf (.int .u64)) h2 (V.add a1.a (Int.toNat y1 * 1))).bind fun x4 =>
((cmp_Compare_uint64P x3 x4).bind fun r5 =>
(bif (!(decide (r5 = 0))) then (some (.done (.ret r5, h2))) else (some (.more ((IntKind.wrap .i64 (y1 + 1)), h2)))))))))) else (some (.done (.ex0 (), h2))))
noncomputable def slices_Compare_uint64_uint64 (a0 : SV) (a1 : SV) (h : H) : Option ((Int) × H) :=
((iter FUEL (slices_Compare_uint64_uint64.loop1 a0 a1) (0, h)).bind fun (fl7, h6) => match fl7 with
| .next _ => none
| .ret rr8 => (some (rr8, h6))
| .ex0 _ =>
(bif (decide (((a0.len : Nat) : Int) < ((a1.len : Nat) : Int))) then (some ((-1), h6)) else (some (0, h6)))
| .ex1 _ => none)
def slices_Compare_uint64_uint64.A : Ann := { lits := [], conds := [], loops := [(2, [11], [.leaf (.int .i64)], [], [], some 0, none)], regs := [] }
theorem slices_Compare_uint64_uint64.eq : ∀ (x : TT [.leaf .slice, .leaf .slice]) (h : H), evalFn Try.prog (slices_Compare_uint64_uint64.tb) slices_Compare_uint64_uint64.A Try.f55 (.one (.leaf (.int .i64))) (TT.un [.leaf .slice, .leaf .slice] x) h = slices_Compare_uint64_uint64 x.1 x.2 h := by
  intro x h
  kernel_rfl
noncomputable def slices_Compare_uint64_uint64.e : Entry := mkX [.leaf .slice, .leaf .slice] (.one (.leaf (.int .i64))) fun x h => slices_Compare_uint64_uint64 x.1 x.2 h
theorem slices_Compare_uint64_uint64.ok : EntryOK Try.prog 55 (slices_Compare_uint64_uint64.e) := mkX_ok (slices_Compare_uint64_uint64.tbok) Try.mixed Try.func55 (by kernel_rfl) (slices_Compare_uint64_uint64.eq)
noncomputable def slices_Compare_uint64_uint64P (a0 : (List (Int))) (a1 : (List (Int))) : Option (Int) := (slices_Compare_uint64_uint64 (rowSV false [.int .u64] a0) (rowSV false [.int .u64] a1) H.empty).bind fun p => rdRes false p.2 (.one (.leaf (.int .i64))) (Res.un (.one (.leaf (.int .i64))) p.1)
theorem slices_Compare_uint64_uint64P.eq : ∀ x : TT [.leaf (.row [.int .u64]), .leaf (.row [.int .u64])], ((evalFn Try.prog (slices_Compare_uint64_uint64.tb) slices_Compare_uint64_uint64.A Try.f55 (.one (.leaf (.int .i64))) (TT.lo false [.leaf (.row [.int .u64]), .leaf (.row [.int .u64])] x) H.empty).bind fun p => rdRes false p.2 (.one (.leaf (.int .i64))) (Res.un (.one (.leaf (.int .i64))) p.1)) = slices_Compare_uint64_uint64P x.1 x.2 := by
  intro x
  rw [show TT.lo false [.leaf (.row [.int .u64]), .leaf (.row [.int .u64])] x = TT.un [.leaf .slice, .leaf .slice] ((rowSV false [.int .u64] x.1), (rowSV false [.int .u64] x.2)) from rfl, slices_Compare_uint64_uint64.eq]
  rfl
noncomputable def slices_Compare_uint64_uint64P.e : Entry := mkP [.leaf (.row [.int .u64]), .leaf (.row [.int .u64])] (.one (.leaf (.int .i64))) fun x => slices_Compare_uint64_uint64P x.1 x.2
theorem slices_Compare_uint64_uint64P.ok : EntryOK Try.prog 55 (slices_Compare_uint64_uint64P.e) := mkP_ok (slices_Compare_uint64_uint64.tbok) Try.mixed Try.func55 (by kernel_rfl) slices_Compare_uint64_uint64P.eq

/-! ### spile/proportion.Compare: function 20 -/
noncomputable def proportion_Compare.tb : Table := tab [(50, proportion_amountsP.e), (54, proportion_productP.e), (55, slices_Compare_uint64_uint64P.e)] [] Table.nil
theorem proportion_Compare.tbok : TabOK Try.prog (proportion_Compare.tb) := TabOK.tab (TabOK.nil Try.prog) (all_cons proportion_amountsP.ok (all_cons proportion_productP.ok (all_cons slices_Compare_uint64_uint64P.ok (all_nil _)))) (all_nil _)
noncomputable def proportion_Compare (a0 : Int) (a1 : Int) (a2 : Int) (a3 : Int) (h : H) : Option ((Int × Int) × H) :=
((rdRow true h [.int .i64] ⟨.lp true ([.int .i64 a0, .int .i64 a1, .int .i64 a2, .int .i64 a3]) 0, 4, 4, false⟩).bind fun s2 =>
((proportion_amountsP s2).bind fun r1 =>
(bif (!r1) then (some ((0, 2), h)) else (((bif !(decide (a1 = 0)) then (some ((decide (a3 = 0)), h)) else (some (true, h)))).bind fun (y3, h4) =>
(bif y3 then (some ((0, 16), h4)) else ((proportion_productP a0 a3).bind fun (r5_0, r5_1) =>
((proportion_productP a2 a1).bind fun (r6_0, r6_1) =>
(let h7 : H := H.new h4 [.int .u64 0, .int .u64 0] 2
(let h8 : H := H.new h7 [.int .u64 0, .int .u64 0] 2
((H.wrs h8 (.hp h4.next 2 0) [.int .u64 r5_0, .int .u64 r5_1]).bind fun h9 =>
((H.wrs h9 (.hp h7.next 2 0) [.int .u64 r6_0, .int .u64 r6_1]).bind fun h10 =>
(let h11 : H := H.reserve h10 0
(guardO ((0 : Int) ≤ 0 ∧ (0 : Int) ≤ ((2 : Nat) : Int) ∧ ((2 : Nat) : Int) ≤ ((2 : Nat) : Int)) (guardO ((0 : Int) ≤ 0 ∧ (0 : Int) ≤ ((2 : Nat) : Int) ∧ ((2 : Nat) : Int) ≤ ((2 : Nat) : Int)) ((rdRow true h11 [.int .u64] ⟨.hp h4.next 2 0, ((Int.toNat ((2 : Nat) : Int)) - Int.toNat 0), (2 - Int.toNat 0), false⟩).bind fun s13 =>
((rdRow true h11 [.int .u64] ⟨.hp h7.next 2 0, ((Int.toNat ((2 : Nat) : Int)) - Int.toNat 0), (2 - Int.toNat 0), false⟩).bind fun s14 =>
((slices_Compare_uint64_uint64P s13 s14).bind fun r12 =>
(some ((r12, 0), h11)))))))))))))))))))
def proportion_Compare.A : Ann := { lits := [], conds := [], loops := [], regs := [(3, [24], [.leaf .bool])] }
theorem proportion_Compare.eq : ∀ (x : TT [.leaf (.int .i64), .leaf (.int .i64), .leaf (.int .i64), .leaf (.int .i64)]) (h : H), evalFn Try.prog (proportion_Compare.tb) proportion_Compare.A Try.f20 (.many [.leaf (.int .i64), .leaf (.int .i64)]) (TT.un [.leaf (.int .i64), .leaf (.int .i64), .leaf (.int .i64), .leaf (.int .i64)] x) h = proportion_Compare x.1 x.2.1 x.2.2.1 x.2.2.2 h := by
  intro x h
  kernel_rfl
noncomputable def proportion_Compare.e : Entry := mkX [.leaf (.int .i64), .leaf (.int .i64), .leaf (.int .i64), .leaf (.int .i64)] (.many [.leaf (.int .i64), .leaf (.int .i64)]) fun x h => proportion_Compare x.1 x.2.1 x.2.2.1 x.2.2.2 h
theorem proportion_Compare.ok : EntryOK Try.prog 20 (proportion_Compare.e) := mkX_ok (proportion_Compare.tbok) Try.mixed Try.func20 (by kernel_rfl) (proportion_Compare.eq)
noncomputable def proportion_CompareP (a0 : Int) (a1 : Int) (a2 : Int) (a3 : Int) : Option (Int × Int) := (proportion_Compare a0 a1 a2 a3 H.empty).bind fun p => rdRes false p.2 (.many [.leaf (.int .i64), .leaf (.int .i64)]) (Res.un (.many [.leaf (.int .i64), .leaf (.int .i64)]) p.1)
theorem proportion_CompareP.eq : ∀ x : TT [.leaf (.int .i64), .leaf (.int .i64), .leaf (.int .i64), .leaf (.int .i64)], ((evalFn Try.prog (proportion_Compare.tb) proportion_Compare.A Try.f20 (.many [.leaf (.int .i64), .leaf (.int .i64)]) (TT.lo false [.leaf (.int .i64), .leaf (.int .i64), .leaf (.int .i64), .leaf (.int .i64)] x) H.empty).bind fun p => rdRes false p.2 (.many [.leaf (.int .i64), .leaf (.int .i64)]) (Res.un (.many [.leaf (.int .i64), .leaf (.int .i64)]) p.1)) = proportion_CompareP x.1 x.2.1 x.2.2.1 x.2.2.2 := by
  intro x
  rw [show TT.lo false [.leaf (.int .i64), .leaf (.int .i64), .leaf (.int .i64), .leaf (.int .i64)] x = TT.un [.leaf (.int .i64), .leaf (.int .i64), .leaf (.int .i64), .leaf (.int .i64)] (x.1, x.2.1, x.2.2.1, x.2.2.2) from rfl, proportion_Compare.eq]
  rfl
noncomputable def proportion_CompareP.e : Entry := mkP [.leaf (.int .i64), .leaf (.int .i64), .leaf (.int .i64), .leaf (.int .i64)] (.many [.leaf (.int .i64), .leaf (.int .i64)]) fun x => proportion_CompareP x.1 x.2.1 x.2.2.1 x.2.2.2
theorem proportion_CompareP.ok : EntryOK Try.prog 20 (proportion_CompareP.e) := mkP_ok (proportion_Compare.tbok) Try.mixed Try.func20 (by kernel_rfl) proportion_CompareP.eq

/-! ### slices.Clone[[]int,int]: function 24 -/
noncomputable def slices_Clone_int_int.tb : Table := tab [] [] Table.nil
theorem slices_Clone_int_int.tbok : TabOK Try.prog (slices_Clone_int_int.tb) := TabOK.tab (TabOK.nil Try.prog) (all_nil _) (all_nil _)
noncomputable def slices_Clone_int_int (a0 : SV) (h : H) : Option ((SV) × H) :=
(bif !(V.mayNil (a0.a : V)) then (bif (!(V.nn (a0.a : V))) then (some (⟨.nil, 0, 0, false⟩, h)) else ((cellsOf h (.slice a0.a a0.len a0.cap a0.tail : V) 1).bind fun (n3, cs3) =>
((appendS h none 1 8 (⟨.lp true ([]) 0, 0, 0, false⟩) cs3 n3).bind fun (s3, h2) =>
(some (s3, h2))))) else none)
def slices_Clone_int_int.A : Ann := { lits := [], conds := [], loops := [], regs := [] }
theorem slices_Clone_int_int.eq : ∀ (x : TT [.leaf .slice]) (h : H), evalFn Try.prog (slices_Clone_int_int.tb) slices_Clone_int_int.A Try.f24 (.one (.leaf .slice)) (TT.un [.leaf .slice] x) h = slices_Clone_int_int x h := by
  intro x h
  kernel_rfl
noncomputable def slices_Clone_int_int.e : Entry := mkX [.leaf .slice] (.one (.leaf .slice)) (cloneX 1 8)
theorem slices_Clone_int_int.ok : EntryOK Try.prog 24 slices_Clone_int_int.e := cloneX_ok (g := slices_Clone_int_int) (mkX_ok (slices_Clone_int_int.tbok) Try.mixed Try.func24 (by kernel_rfl) (slices_Clone_int_int.eq)) (fun s h => by kernel_rfl)
noncomputable def slices_Clone_int_intP.e : Entry := mkP [.leaf (.row [.int .i64])] (.one (.leaf (.row [.int .i64]))) (cloneP 8)
theorem slices_Clone_int_intP.ok : EntryOK Try.prog 24 slices_Clone_int_intP.e := cloneP_ok slices_Clone_int_int.ok rfl (by omega) rfl

/-! ### spile/proportion.weigh: function 59 -/
noncomputable def proportion_weigh.tb : Table := tab [(50, proportion_amountsP.e), (78, proportion_amountP.e)] [] Table.nil
theorem proportion_weigh.tbok : TabOK Try.prog (proportion_weigh.tb) := TabOK.tab (TabOK.nil Try.prog) (all_cons proportion_amountsP.ok (all_cons proportion_amountP.ok (all_nil _))) (all_nil _)
noncomputable def proportion_weigh.loop1 (a1 : SV) : (Int × Int) × H → Option (Stp ((Int × Int) × H) (Flow (Int) (Int × Int) × H)) := fun ((y4, y5), h6) =>
(bif (decide (y5 < ((a1.len : Nat) : Int))) then (guardO (0 ≤ y5 ∧ y5 < ((a1.len : Nat) : Int)) ((rdT (.leaf (.int .i64)) h6 (V.add a1.a (Int.toNat y5 * 1))).bind fun x7 =>
(some (.more (((IntKind.wrap .i64 (y4 + x7)), (IntKind.wrap .i64 (y5 + 1))), h6))))) else (some (.done (.ex0 y4, h6))))
noncomputable def proportion_weigh (a0 : Int) (a1 : SV) (h : H) : Option ((Int × Int) × H) :=
((proportion_amountP a0).bind fun r1 =>
(bif (!r1) then (some ((0, 2), h)) else (bif (decide (((a1.len : Nat) : Int) = 0)) then (some ((0, 9), h)) else (bif (decide ((64 : Int) < ((a1.len : Nat) : Int))) then (some ((0, 8), h)) else ((rdRow true h [.int .i64] a1).bind fun s3 =>
((proportion_amountsP s3).bind fun r2 =>
(bif (!r2) then (some ((0, 2), h)) else ((iter FUEL (proportion_weigh.loop1 a1) ((0, 0), h)).bind fun (fl9, h8) => match fl9 with
| .next _ => none
| .ret rr10 => (some (rr10, h8))
| .ex0 y11 =>
((proportion_amountP y11).bind fun r12 =>
(bif (!r12) then (some ((0, 2), h8)) else (bif (decide (y11 = 0)) then (some ((0, 16), h8)) else (some ((y11, 0), h8)))))
| .ex1 _ => none))))))))
def proportion_weigh.A : Ann := { lits := [], conds := [], loops := [(11, [6, 27], [.leaf (.int .i64), .leaf (.int .i64)], [6], [.leaf (.int .i64)], some 1, none)], regs := [] }
theorem proportion_weigh.eq : ∀ (x : TT [.leaf (.int .i64), .leaf .slice]) (h : H), evalFn Try.prog (proportion_weigh.tb) proportion_weigh.A Try.f59 (.many [.leaf (.int .i64), .leaf (.int .i64)]) (TT.un [.leaf (.int .i64), .leaf .slice] x) h = proportion_weigh x.1 x.2 h := by
  intro x h
  kernel_rfl
noncomputable def proportion_weigh.e : Entry := mkX [.leaf (.int .i64), .leaf .slice] (.many [.leaf (.int .i64), .leaf (.int .i64)]) fun x h => proportion_weigh x.1 x.2 h
theorem proportion_weigh.ok : EntryOK Try.prog 59 (proportion_weigh.e) := mkX_ok (proportion_weigh.tbok) Try.mixed Try.func59 (by kernel_rfl) (proportion_weigh.eq)
noncomputable def proportion_weighP (a0 : Int) (a1 : (List (Int))) : Option (Int × Int) := (proportion_weigh a0 (rowSV false [.int .i64] a1) H.empty).bind fun p => rdRes false p.2 (.many [.leaf (.int .i64), .leaf (.int .i64)]) (Res.un (.many [.leaf (.int .i64), .leaf (.int .i64)]) p.1)
theorem proportion_weighP.eq : ∀ x : TT [.leaf (.int .i64), .leaf (.row [.int .i64])], ((evalFn Try.prog (proportion_weigh.tb) proportion_weigh.A Try.f59 (.many [.leaf (.int .i64), .leaf (.int .i64)]) (TT.lo false [.leaf (.int .i64), .leaf (.row [.int .i64])] x) H.empty).bind fun p => rdRes false p.2 (.many [.leaf (.int .i64), .leaf (.int .i64)]) (Res.un (.many [.leaf (.int .i64), .leaf (.int .i64)]) p.1)) = proportion_weighP x.1 x.2 := by
  intro x
  rw [show TT.lo false [.leaf (.int .i64), .leaf (.row [.int .i64])] x = TT.un [.leaf (.int .i64), .leaf .slice] (x.1, (rowSV false [.int .i64] x.2)) from rfl, proportion_weigh.eq]
  rfl
noncomputable def proportion_weighP.e : Entry := mkP [.leaf (.int .i64), .leaf (.row [.int .i64])] (.many [.leaf (.int .i64), .leaf (.int .i64)]) fun x => proportion_weighP x.1 x.2
theorem proportion_weighP.ok : EntryOK Try.prog 59 (proportion_weighP.e) := mkP_ok (proportion_weigh.tbok) Try.mixed Try.func59 (by kernel_rfl) proportion_weighP.eq

/-! ### slices.insertionSortCmpFunc[int]: function 89 -/
noncomputable def slices_insertionSortCmpFunc_int.tb (T : Table) : Table := tab [] [] T
theorem slices_insertionSortCmpFunc_int.tbok (T : Table) (hT : TabOK Try.prog T) : TabOK Try.prog (slices_insertionSortCmpFunc_int.tb T) := TabOK.tab (hT) (all_nil _) (all_nil _)
noncomputable def slices_insertionSortCmpFunc_int.loop1 (T : Table) (a0 : SV) (a1 : Int) (a3 : V) : (Int) × H → Option (Stp ((Int) × H) (Flow (Unit) (Unit) × H)) := fun (y3, h4) =>
(((let h5 : H := H.reserve h4 0
(bif (decide (a1 < y3)) then (guardO (0 ≤ y3 ∧ y3 < ((a0.len : Nat) : Int)) ((rdT (.leaf (.int .i64)) h5 (V.add a0.a (Int.toNat y3 * 1))).bind fun x6 =>
(guardO (0 ≤ (IntKind.wrap .i64 (y3 - 1)) ∧ (IntKind.wrap .i64 (y3 - 1)) < ((a0.len : Nat) : Int)) ((rdT (.leaf (.int .i64)) h5 (V.add a0.a (Int.toNat (IntKind.wrap .i64 (y3 - 1)) * 1))).bind fun x7 =>
(callV T.dy a3 [.int .i64 x6, .int .i64 x7] h5 fun v8 h9 =>
(Res.pack (.one (.leaf (.int .i64))) v8).bind fun r10 =>
(some ((decide (r10 < 0)), h9))))))) else (some (false, h5))))).bind fun (y11, h12) =>
(bif y11 then (let h13 : H := H.reserve h12 0
(guardO (0 ≤ (IntKind.wrap .i64 (y3 - 1)) ∧ (IntKind.wrap .i64 (y3 - 1)) < ((a0.len : Nat) : Int)) ((rdT (.leaf (.int .i64)) h13 (V.add a0.a (Int.toNat (IntKind.wrap .i64 (y3 - 1)) * 1))).bind fun x14 =>
(guardO (0 ≤ y3 ∧ y3 < ((a0.len : Nat) : Int)) ((rdT (.leaf (.int .i64)) h13 (V.add a0.a (Int.toNat y3 * 1))).bind fun x15 =>
(guardO (0 ≤ y3 ∧ y3 < ((a0.len : Nat) : Int)) ((H.wrs h13 (V.add a0.a (Int.toNat y3 * 1)) [.int .i64 x14]).bind fun h16 =>
(guardO (0 ≤ (IntKind.wrap .i64 (y3 - 1)) ∧ (IntKind.wrap .i64 (y3 - 1)) < ((a0.len : Nat) : Int)) ((H.wrs h16 (V.add a0.a (Int.toNat (IntKind.wrap .i64 (y3 - 1)) * 1)) [.int .i64 x15]).bind fun h17 =>
(some (.more ((IntKind.wrap .i64 (y3 - 1)), h17)))))))))))) else (some (.done (.ex0 (), h12)))))
noncomputable def slices_insertionSortCmpFunc_int.loop2 (T : Table) (a0 : SV) (a1 : Int) (a2 : Int) (a3 : V) : (Int) × H → Option (Stp ((Int) × H) (Flow (Unit) (Unit) × H)) := fun (y1, h2) =>
(bif (decide (y1 < a2)) then ((iter FUEL (slices_insertionSortCmpFunc_int.loop1 T a0 a1 a3) (y1, h2)).bind fun (fl19, h18) => match fl19 with
| .next _ => none
| .ret rr20 => (some (.done (.ret rr20, h18)))
| .ex0 _ =>
(some (.more ((IntKind.wrap .i64 (y1 + 1)), h18)))
| .ex1 _ => none) else (some (.done (.ex0 (), h2))))
noncomputable def slices_insertionSortCmpFunc_int (T : Table) (a0 : SV) (a1 : Int) (a2 : Int) (a3 : V) (h : H) : Option ((Unit) × H) :=
((iter FUEL (slices_insertionSortCmpFunc_int.loop2 T a0 a1 a2 a3) ((IntKind.wrap .i64 (a1 + 1)), h)).bind fun (fl22, h21) => match fl22 with
| .next _ => none
| .ret rr23 => (some (rr23, h21))
| .ex0 _ =>
(some ((), h21))
| .ex1 _ => none)
def slices_insertionSortCmpFunc_int.A : Ann := { lits := [], conds := [], loops := [(4, [9], [.leaf (.int .i64)], [], [], some 2, none), (1, [8], [.leaf (.int .i64)], [], [], some 0, none)], regs := [(4, [34], [.leaf .bool])] }
theorem slices_insertionSortCmpFunc_int.eq (T : Table) : ∀ (x : TT [.leaf .slice, .leaf (.int .i64), .leaf (.int .i64), .leaf .dyn]) (h : H), evalFn Try.prog (slices_insertionSortCmpFunc_int.tb T) slices_insertionSortCmpFunc_int.A Try.f89 (.many []) (TT.un [.leaf .slice, .leaf (.int .i64), .leaf (.int .i64), .leaf .dyn] x) h = slices_insertionSortCmpFunc_int T x.1 x.2.1 x.2.2.1 x.2.2.2 h := by
  intro x h
  kernel_rfl
noncomputable def slices_insertionSortCmpFunc_int.e (T : Table) : Entry := mkX [.leaf .slice, .leaf (.int .i64), .leaf (.int .i64), .leaf .dyn] (.many []) fun x h => slices_insertionSortCmpFunc_int T x.1 x.2.1 x.2.2.1 x.2.2.2 h
theorem slices_insertionSortCmpFunc_int.ok (T : Table) (hT : TabOK Try.prog T) : EntryOK Try.prog 89 (slices_insertionSortCmpFunc_int.e T) := mkX_ok (slices_insertionSortCmpFunc_int.tbok T hT) Try.mixed Try.func89 (by kernel_rfl) (slices_insertionSortCmpFunc_int.eq T)
end Go.Proofs.Ytadlfinlbaogeaa
