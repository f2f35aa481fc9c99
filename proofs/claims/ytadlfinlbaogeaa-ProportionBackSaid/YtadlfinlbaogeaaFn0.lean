/- The functions of the program as Lean functions, each with the equation by which the evaluator is that function. Written by a program of this session (evdrive.py). Conditions: none. -/
import Derived.Test.YtadlfinlbaogeaaProg
import Derived.Test.YtadlfinlbaogeaaEvSpec

namespace Go.Proofs.Ytadlfinlbaogeaa
open Go Go.Proofs.Ytadlfinlbaogeaa.Ev
set_option maxRecDepth 100000
set_option linter.unusedVariables false
theorem Try.mixed : Try.prog.follows .mixedOrders = true := by kernel_rfl
/-! ### slices.IndexFunc[[]int,int]: function 60 -/
noncomputable def slices_IndexFunc_int_int.tb (T : Table) : Table := tab [] [] T
theorem slices_IndexFunc_int_int.tbok (T : Table) (hT : TabOK Try.prog T) : TabOK Try.prog (slices_IndexFunc_int_int.tb T) := TabOK.tab (hT) (all_nil _) (all_nil _)
noncomputable def slices_IndexFunc_int_int.loop1 (T : Table) (a0 : SV) (a1 : V) : (Int) × H → Option (Stp ((Int) × H) (Flow (Unit) (Int) × H)) := fun (y1, h2) =>
(bif (decide (y1 < ((a0.len : Nat) : Int))) then (guardO (0 ≤ y1 ∧ y1 < ((a0.len : Nat) : Int)) ((rdT (.leaf (.int .i64)) h2 (V.add a0.a (Int.toNat y1 * 1))).bind fun x3 =>
(callV T.dy a1 [.int .i64 x3] h2 fun v4 h5 =>
(Res.pack (.one (.leaf .bool)) v4).bind fun r6 =>
(bif r6 then (some (.done (.ret y1, h5))) else (some (.more ((IntKind.wrap .i64 (y1 + 1)), h5))))))) else (some (.done (.ex0 (), h2))))
noncomputable def slices_IndexFunc_int_int (T : Table) (a0 : SV) (a1 : V) (h : H) : Option ((Int) × H) :=
((iter FUEL (slices_IndexFunc_int_int.loop1 T a0 a1) (0, h)).bind fun (fl8, h7) => match fl8 with
| .next _ => none
| .ret rr9 => (some (rr9, h7))
| .ex0 _ =>
(some ((-1), h7))
| .ex1 _ => none)
def slices_IndexFunc_int_int.A : Ann := { lits := [], conds := [], loops := [(2, [8], [.leaf (.int .i64)], [], [], some 0, none)], regs := [] }
theorem slices_IndexFunc_int_int.eq (T : Table) : ∀ (x : TT [.leaf .slice, .leaf .dyn]) (h : H), evalFn Try.prog (slices_IndexFunc_int_int.tb T) slices_IndexFunc_int_int.A Try.f60 (.one (.leaf (.int .i64))) (TT.un [.leaf .slice, .leaf .dyn] x) h = slices_IndexFunc_int_int T x.1 x.2 h := by
  intro x h
  kernel_rfl
noncomputable def slices_IndexFunc_int_int.e (T : Table) : Entry := mkX [.leaf .slice, .leaf .dyn] (.one (.leaf (.int .i64))) fun x h => slices_IndexFunc_int_int T x.1 x.2 h
theorem slices_IndexFunc_int_int.ok (T : Table) (hT : TabOK Try.prog T) : EntryOK Try.prog 60 (slices_IndexFunc_int_int.e T) := mkX_ok (slices_IndexFunc_int_int.tbok T hT) Try.mixed Try.func60 (by kernel_rfl) (slices_IndexFunc_int_int.eq T)

/-! ### slices.ContainsFunc[[]int,int]: function 26 -/
noncomputable def slices_ContainsFunc_int_int.tb (T : Table) : Table := tab [] [] T
theorem slices_ContainsFunc_int_int.tbok (T : Table) (hT : TabOK Try.prog T) : TabOK Try.prog (slices_ContainsFunc_int_int.tb T) := TabOK.tab (hT) (all_nil _) (all_nil _)
noncomputable def slices_ContainsFunc_int_int (T : Table) (a0 : SV) (a1 : V) (h : H) : Option ((Bool) × H) :=
((slices_IndexFunc_int_int (slices_ContainsFunc_int_int.tb T) a0 a1 h).bind fun (r1, h2) =>
(some ((decide ((0 : Int) ≤ r1)), h2)))
def slices_ContainsFunc_int_int.A : Ann := { lits := [], conds := [], loops := [], regs := [] }
noncomputable def slices_ContainsFunc_int_int.tc (T : Table) : Table := tab [(60, slices_IndexFunc_int_int.e (slices_ContainsFunc_int_int.tb T))] [] (slices_ContainsFunc_int_int.tb T)
theorem slices_ContainsFunc_int_int.tcok (T : Table) (hT : TabOK Try.prog T) : TabOK Try.prog (slices_ContainsFunc_int_int.tc T) := TabOK.tab (slices_ContainsFunc_int_int.tbok T hT) (all_cons (slices_IndexFunc_int_int.ok _ (slices_ContainsFunc_int_int.tbok T hT)) (all_nil _)) (all_nil _)
theorem slices_ContainsFunc_int_int.eq (T : Table) : ∀ (x : TT [.leaf .slice, .leaf .dyn]) (h : H), evalFn Try.prog (slices_ContainsFunc_int_int.tc T) slices_ContainsFunc_int_int.A Try.f26 (.one (.leaf .bool)) (TT.un [.leaf .slice, .leaf .dyn] x) h = slices_ContainsFunc_int_int T x.1 x.2 h := by
  intro x h
  kernel_rfl
noncomputable def slices_ContainsFunc_int_int.e (T : Table) : Entry := mkX [.leaf .slice, .leaf .dyn] (.one (.leaf .bool)) fun x h => slices_ContainsFunc_int_int T x.1 x.2 h
theorem slices_ContainsFunc_int_int.ok (T : Table) (hT : TabOK Try.prog T) : EntryOK Try.prog 26 (slices_ContainsFunc_int_int.e T) := mkX_ok (slices_ContainsFunc_int_int.tcok T hT) Try.mixed Try.func26 (by kernel_rfl) (slices_ContainsFunc_int_int.eq T)

/-! ### spile/proportion.amount: function 78 -/
noncomputable def proportion_amount.tb : Table := tab [] [] Table.nil
theorem proportion_amount.tbok : TabOK Try.prog (proportion_amount.tb) := TabOK.tab (TabOK.nil Try.prog) (all_nil _) (all_nil _)
noncomputable def proportion_amount (a0 : Int) (h : H) : Option ((Bool) × H) :=
(((bif (decide ((0 : Int) ≤ a0)) then (some ((decide (a0 ≤ 128849018880000)), h)) else (some (false, h)))).bind fun (y1, h2) =>
(some (y1, h2)))
def proportion_amount.A : Ann := { lits := [], conds := [], loops := [], regs := [(1, [2], [.leaf .bool])] }
theorem proportion_amount.eq : ∀ (x : TT [.leaf (.int .i64)]) (h : H), evalFn Try.prog (proportion_amount.tb) proportion_amount.A Try.f78 (.one (.leaf .bool)) (TT.un [.leaf (.int .i64)] x) h = proportion_amount x h := by
  intro x h
  kernel_rfl
noncomputable def proportion_amount.e : Entry := mkX [.leaf (.int .i64)] (.one (.leaf .bool)) fun x h => proportion_amount x h
theorem proportion_amount.ok : EntryOK Try.prog 78 (proportion_amount.e) := mkX_ok (proportion_amount.tbok) Try.mixed Try.func78 (by kernel_rfl) (proportion_amount.eq)
noncomputable def proportion_amountP (a0 : Int) : Option (Bool) := (proportion_amount a0 H.empty).bind fun p => rdRes false p.2 (.one (.leaf .bool)) (Res.un (.one (.leaf .bool)) p.1)
theorem proportion_amountP.eq : ∀ x : TT [.leaf (.int .i64)], ((evalFn Try.prog (proportion_amount.tb) proportion_amount.A Try.f78 (.one (.leaf .bool)) (TT.lo false [.leaf (.int .i64)] x) H.empty).bind fun p => rdRes false p.2 (.one (.leaf .bool)) (Res.un (.one (.leaf .bool)) p.1)) = proportion_amountP x := by
  intro x
  rw [show TT.lo false [.leaf (.int .i64)] x = TT.un [.leaf (.int .i64)] (x) from rfl, proportion_amount.eq]
  rfl
noncomputable def proportion_amountP.e : Entry := mkP [.leaf (.int .i64)] (.one (.leaf .bool)) fun x => proportion_amountP x
theorem proportion_amountP.ok : EntryOK Try.prog 78 (proportion_amountP.e) := mkP_ok (proportion_amount.tbok) Try.mixed Try.func78 (by kernel_rfl) proportion_amountP.eq

/-! ### spile/proportion.amounts$1: function 77 -/
noncomputable def proportion_amounts_1.tb : Table := tab [(78, proportion_amountP.e)] [] Table.nil
theorem proportion_amounts_1.tbok : TabOK Try.prog (proportion_amounts_1.tb) := TabOK.tab (TabOK.nil Try.prog) (all_cons proportion_amountP.ok (all_nil _)) (all_nil _)
noncomputable def proportion_amounts_1 (a0 : Int) (h : H) : Option ((Bool) × H) :=
((proportion_amountP a0).bind fun r1 =>
(some ((!r1), h)))
def proportion_amounts_1.A : Ann := { lits := [], conds := [], loops := [], regs := [] }
theorem proportion_amounts_1.eq : ∀ (x : TT [.leaf (.int .i64)]) (h : H), evalFn Try.prog (proportion_amounts_1.tb) proportion_amounts_1.A Try.f77 (.one (.leaf .bool)) (TT.un [.leaf (.int .i64)] x) h = proportion_amounts_1 x h := by
  intro x h
  kernel_rfl
noncomputable def proportion_amounts_1.e : Entry := mkX [.leaf (.int .i64)] (.one (.leaf .bool)) fun x h => proportion_amounts_1 x h
theorem proportion_amounts_1.ok : EntryOK Try.prog 77 (proportion_amounts_1.e) := mkX_ok (proportion_amounts_1.tbok) Try.mixed Try.func77 (by kernel_rfl) (proportion_amounts_1.eq)
noncomputable def proportion_amounts_1P (a0 : Int) : Option (Bool) := (proportion_amounts_1 a0 H.empty).bind fun p => rdRes false p.2 (.one (.leaf .bool)) (Res.un (.one (.leaf .bool)) p.1)
theorem proportion_amounts_1P.eq : ∀ x : TT [.leaf (.int .i64)], ((evalFn Try.prog (proportion_amounts_1.tb) proportion_amounts_1.A Try.f77 (.one (.leaf .bool)) (TT.lo false [.leaf (.int .i64)] x) H.empty).bind fun p => rdRes false p.2 (.one (.leaf .bool)) (Res.un (.one (.leaf .bool)) p.1)) = proportion_amounts_1P x := by
  intro x
  rw [show TT.lo false [.leaf (.int .i64)] x = TT.un [.leaf (.int .i64)] (x) from rfl, proportion_amounts_1.eq]
  rfl
noncomputable def proportion_amounts_1P.e : Entry := mkP [.leaf (.int .i64)] (.one (.leaf .bool)) fun x => proportion_amounts_1P x
theorem proportion_amounts_1P.ok : EntryOK Try.prog 77 (proportion_amounts_1P.e) := mkP_ok (proportion_amounts_1.tbok) Try.mixed Try.func77 (by kernel_rfl) proportion_amounts_1P.eq

/-! ### spile/proportion.amounts: function 50 -/
noncomputable def proportion_amounts.tb : Table := tab [] [(77, proportion_amounts_1P.e)] Table.nil
theorem proportion_amounts.tbok : TabOK Try.prog (proportion_amounts.tb) := TabOK.tab (TabOK.nil Try.prog) (all_nil _) (all_cons proportion_amounts_1P.ok (all_nil _))
noncomputable def proportion_amounts (a0 : SV) (h : H) : Option ((Bool) × H) :=
((slices_ContainsFunc_int_int proportion_amounts.tb a0 (.func 77 [] : V) h).bind fun (r1, h2) =>
(some ((!r1), h2)))
def proportion_amounts.A : Ann := { lits := [], conds := [], loops := [], regs := [] }
noncomputable def proportion_amounts.tc : Table := tab [(26, slices_ContainsFunc_int_int.e (proportion_amounts.tb))] [] (proportion_amounts.tb)
theorem proportion_amounts.tcok : TabOK Try.prog (proportion_amounts.tc) := TabOK.tab (proportion_amounts.tbok) (all_cons (slices_ContainsFunc_int_int.ok _ (proportion_amounts.tbok)) (all_nil _)) (all_nil _)
theorem proportion_amounts.eq : ∀ (x : TT [.leaf .slice]) (h : H), evalFn Try.prog (proportion_amounts.tc) proportion_amounts.A Try.f50 (.one (.leaf .bool)) (TT.un [.leaf .slice] x) h = proportion_amounts x h := by
  intro x h
  kernel_rfl
noncomputable def proportion_amounts.e : Entry := mkX [.leaf .slice] (.one (.leaf .bool)) fun x h => proportion_amounts x h
theorem proportion_amounts.ok : EntryOK Try.prog 50 (proportion_amounts.e) := mkX_ok (proportion_amounts.tcok) Try.mixed Try.func50 (by kernel_rfl) (proportion_amounts.eq)
noncomputable def proportion_amountsP (a0 : (List (Int))) : Option (Bool) := (proportion_amounts (rowSV false [.int .i64] a0) H.empty).bind fun p => rdRes false p.2 (.one (.leaf .bool)) (Res.un (.one (.leaf .bool)) p.1)
theorem proportion_amountsP.eq : ∀ x : TT [.leaf (.row [.int .i64])], ((evalFn Try.prog (proportion_amounts.tc) proportion_amounts.A Try.f50 (.one (.leaf .bool)) (TT.lo false [.leaf (.row [.int .i64])] x) H.empty).bind fun p => rdRes false p.2 (.one (.leaf .bool)) (Res.un (.one (.leaf .bool)) p.1)) = proportion_amountsP x := by
  intro x
  rw [show TT.lo false [.leaf (.row [.int .i64])] x = TT.un [.leaf .slice] ((rowSV false [.int .i64] x)) from rfl, proportion_amounts.eq]
  rfl
noncomputable def proportion_amountsP.e : Entry := mkP [.leaf (.row [.int .i64])] (.one (.leaf .bool)) fun x => proportion_amountsP x
theorem proportion_amountsP.ok : EntryOK Try.prog 50 (proportion_amountsP.e) := mkP_ok (proportion_amounts.tcok) Try.mixed Try.func50 (by kernel_rfl) proportion_amountsP.eq

/-! ### math/bits.Mul64: function 40 -/
noncomputable def math_bits_Mul64.tb : Table := tab [] [] Table.nil
theorem math_bits_Mul64.tbok : TabOK Try.prog (math_bits_Mul64.tb) := TabOK.tab (TabOK.nil Try.prog) (all_nil _) (all_nil _)
noncomputable def math_bits_Mul64 (a0 : Int) (a1 : Int) (h : H) : Option ((Int × Int) × H) :=
(some (((IntKind.wrap .u64 ((IntKind.wrap .u64 ((IntKind.wrap .u64 ((Int.fdiv a0 (2 ^ (min (Int.toNat 32) (IntKind.bits .u64)))) * (Int.fdiv a1 (2 ^ (min (Int.toNat 32) (IntKind.bits .u64)))))) + (Int.fdiv (IntKind.wrap .u64 ((IntKind.wrap .u64 ((Int.fdiv a0 (2 ^ (min (Int.toNat 32) (IntKind.bits .u64)))) * (bitsI .and .u64 a1 4294967295))) + (Int.fdiv (IntKind.wrap .u64 ((bitsI .and .u64 a0 4294967295) * (bitsI .and .u64 a1 4294967295))) (2 ^ (min (Int.toNat 32) (IntKind.bits .u64)))))) (2 ^ (min (Int.toNat 32) (IntKind.bits .u64)))))) + (Int.fdiv (IntKind.wrap .u64 ((bitsI .and .u64 (IntKind.wrap .u64 ((IntKind.wrap .u64 ((Int.fdiv a0 (2 ^ (min (Int.toNat 32) (IntKind.bits .u64)))) * (bitsI .and .u64 a1 4294967295))) + (Int.fdiv (IntKind.wrap .u64 ((bitsI .and .u64 a0 4294967295) * (bitsI .and .u64 a1 4294967295))) (2 ^ (min (Int.toNat 32) (IntKind.bits .u64)))))) 4294967295) + (IntKind.wrap .u64 ((bitsI .and .u64 a0 4294967295) * (Int.fdiv a1 (2 ^ (min (Int.toNat 32) (IntKind.bits .u64)))))))) (2 ^ (min (Int.toNat 32) (IntKind.bits .u64)))))), (IntKind.wrap .u64 (a0 * a1))), h))
def math_bits_Mul64.A : Ann := { lits := [], conds := [], loops := [], regs := [] }
theorem math_bits_Mul64.eq : ∀ (x : TT [.leaf (.int .u64), .leaf (.int .u64)]) (h : H), evalFn Try.prog (math_bits_Mul64.tb) math_bits_Mul64.A Try.f40 (.many [.leaf (.int .u64), .leaf (.int .u64)]) (TT.un [.leaf (.int .u64), .leaf (.int .u64)] x) h = math_bits_Mul64 x.1 x.2 h := by
  intro x h
  kernel_rfl
noncomputable def math_bits_Mul64.e : Entry := mkX [.leaf (.int .u64), .leaf (.int .u64)] (.many [.leaf (.int .u64), .leaf (.int .u64)]) fun x h => math_bits_Mul64 x.1 x.2 h
theorem math_bits_Mul64.ok : EntryOK Try.prog 40 (math_bits_Mul64.e) := mkX_ok (math_bits_Mul64.tbok) Try.mixed Try.func40 (by kernel_rfl) (math_bits_Mul64.eq)
noncomputable def math_bits_Mul64P (a0 : Int) (a1 : Int) : Option (Int × Int) := (math_bits_Mul64 a0 a1 H.empty).bind fun p => rdRes false p.2 (.many [.leaf (.int .u64), .leaf (.int .u64)]) (Res.un (.many [.leaf (.int .u64), .leaf (.int .u64)]) p.1)
theorem math_bits_Mul64P.eq : ∀ x : TT [.leaf (.int .u64), .leaf (.int .u64)], ((evalFn Try.prog (math_bits_Mul64.tb) math_bits_Mul64.A Try.f40 (.many [.leaf (.int .u64), .leaf (.int .u64)]) (TT.lo false [.leaf (.int .u64), .leaf (.int .u64)] x) H.empty).bind fun p => rdRes false p.2 (.many [.leaf (.int .u64), .leaf (.int .u64)]) (Res.un (.many [.leaf (.int .u64), .leaf (.int .u64)]) p.1)) = math_bits_Mul64P x.1 x.2 := by
  intro x
  rw [show TT.lo false [.leaf (.int .u64), .leaf (.int .u64)] x = TT.un [.leaf (.int .u64), .leaf (.int .u64)] (x.1, x.2) from rfl, math_bits_Mul64.eq]
  rfl
noncomputable def math_bits_Mul64P.e : Entry := mkP [.leaf (.int .u64), .leaf (.int .u64)] (.many [.leaf (.int .u64), .leaf (.int .u64)]) fun x => math_bits_Mul64P x.1 x.2
theorem math_bits_Mul64P.ok : EntryOK Try.prog 40 (math_bits_Mul64P.e) := mkP_ok (math_bits_Mul64.tbok) Try.mixed Try.func40 (by kernel_rfl) math_bits_Mul64P.eq

/-! ### spile/proportion.product: function 54 -/
noncomputable def proportion_product.tb : Table := tab [(40, math_bits_Mul64P.e)] [] Table.nil
theorem proportion_product.tbok : TabOK Try.prog (proportion_product.tb) := TabOK.tab (TabOK.nil Try.prog) (all_cons math_bits_Mul64P.ok (all_nil _)) (all_nil _)
noncomputable def proportion_product (a0 : Int) (a1 : Int) (h : H) : Option (((Int × Int)) × H) :=
(let h1 : H := H.new h [.int .u64 0, .int .u64 0] 2
((math_bits_Mul64P (IntKind.wrap .u64 (a0)) (IntKind.wrap .u64 (a1))).bind fun (r2, r3) =>
((H.wrs h1 (.hp h.next 2 0) [.int .u64 r2, .int .u64 r3]).bind fun h4 =>
((rdT (.agg [.int .u64, .int .u64]) h4 (.hp h.next 2 0 : V)).bind fun (x5_0, x5_1) =>
(some ((x5_0, x5_1), h4))))))
def proportion_product.A : Ann := { lits := [], conds := [], loops := [], regs := [] }
theorem proportion_product.eq : ∀ (x : TT [.leaf (.int .i64), .leaf (.int .i64)]) (h : H), evalFn Try.prog (proportion_product.tb) proportion_product.A Try.f54 (.one (.agg [.int .u64, .int .u64])) (TT.un [.leaf (.int .i64), .leaf (.int .i64)] x) h = proportion_product x.1 x.2 h := by
  intro x h
  kernel_rfl
noncomputable def proportion_product.e : Entry := mkX [.leaf (.int .i64), .leaf (.int .i64)] (.one (.agg [.int .u64, .int .u64])) fun x h => proportion_product x.1 x.2 h
theorem proportion_product.ok : EntryOK Try.prog 54 (proportion_product.e) := mkX_ok (proportion_product.tbok) Try.mixed Try.func54 (by kernel_rfl) (proportion_product.eq)
noncomputable def proportion_productP (a0 : Int) (a1 : Int) : Option ((Int × Int)) := (proportion_product a0 a1 H.empty).bind fun p => rdRes false p.2 (.one (.agg [.int .u64, .int .u64])) (Res.un (.one (.agg [.int .u64, .int .u64])) p.1)
theorem proportion_productP.eq : ∀ x : TT [.leaf (.int .i64), .leaf (.int .i64)], ((evalFn Try.prog (proportion_product.tb) proportion_product.A Try.f54 (.one (.agg [.int .u64, .int .u64])) (TT.lo false [.leaf (.int .i64), .leaf (.int .i64)] x) H.empty).bind fun p => rdRes false p.2 (.one (.agg [.int .u64, .int .u64])) (Res.un (.one (.agg [.int .u64, .int .u64])) p.1)) = proportion_productP x.1 x.2 := by
  intro x
  rw [show TT.lo false [.leaf (.int .i64), .leaf (.int .i64)] x = TT.un [.leaf (.int .i64), .leaf (.int .i64)] (x.1, x.2) from rfl, proportion_product.eq]
  rfl
noncomputable def proportion_productP.e : Entry := mkP [.leaf (.int .i64), .leaf (.int .i64)] (.one (.agg [.int .u64, .int .u64])) fun x => proportion_productP x.1 x.2
theorem proportion_productP.ok : EntryOK Try.prog 54 (proportion_productP.e) := mkP_ok (proportion_product.tbok) Try.mixed Try.func54 (by kernel_rfl) proportion_productP.eq

/-! ### math/bits.Len64: function 91 -/
noncomputable def math_bits_Len64.tb : Table := tab [] [] Table.nil
theorem math_bits_Len64.tbok : TabOK Try.prog (math_bits_Len64.tb) := TabOK.tab (TabOK.nil Try.prog) (all_nil _) (all_nil _)
noncomputable def math_bits_Len64 (a0 : Int) (h : H) : Option ((Int) × H) :=
((bif (decide ((4294967296 : Int) ≤ a0)) then (some (.next ((Int.fdiv a0 (2 ^ (min (Int.toNat 32) (IntKind.bits .u64)))), 32), h)) else (some (.next (a0, 0), h)) : Option (Flow (Int × Int) (Int) × H)).bind fun (fl2, h1) => match fl2 with
| .next (y3, y4) =>
((bif (decide ((65536 : Int) ≤ y3)) then (some (.next ((Int.fdiv y3 (2 ^ (min (Int.toNat 16) (IntKind.bits .u64)))), (IntKind.wrap .i64 (y4 + 16))), h1)) else (some (.next (y3, y4), h1)) : Option (Flow (Int × Int) (Int) × H)).bind fun (fl6, h5) => match fl6 with
| .next (y7, y8) =>
((bif (decide ((256 : Int) ≤ y7)) then (some (.next ((Int.fdiv y7 (2 ^ (min (Int.toNat 8) (IntKind.bits .u64)))), (IntKind.wrap .i64 (y8 + 8))), h5)) else (some (.next (y7, y8), h5)) : Option (Flow (Int × Int) (Int) × H)).bind fun (fl10, h9) => match fl10 with
| .next (y11, y12) =>
(guardO (0 ≤ (IntKind.wrap .u8 (y11)) ∧ (IntKind.wrap .u8 (y11)) < ((ByteArray.size (⟨#[0, 1, 2, 2, 3, 3, 3, 3, 4, 4, 4, 4, 4, 4, 4, 4, 5, 5, 5, 5, 5, 5, 5, 5, 5, 5, 5, 5, 5, 5, 5, 5, 6, 6, 6, 6, 6, 6, 6, 6, 6, 6, 6, 6, 6, 6, 6, 6, 6, 6, 6, 6, 6, 6, 6, 6, 6, 6, 6, 6, 6, 6, 6, 6, 7, 7, 7, 7, 7, 7, 7, 7, 7, 7, 7, 7, 7, 7, 7, 7, 7, 7, 7, 7, 7, 7, 7, 7, 7, 7, 7, 7, 7, 7, 7, 7, 7, 7, 7, 7, 7, 7, 7, 7, 7, 7, 7, 7, 7, 7, 7, 7, 7, 7, 7, 7, 7, 7, 7, 7, 7, 7, 7, 7, 7, 7, 7, 7, 8, 8, 8, 8, 8, 8, 8, 8, 8, 8, 8, 8, 8, 8, 8, 8, 8, 8, 8, 8, 8, 8, 8, 8, 8, 8, 8, 8, 8, 8, 8, 8, 8, 8, 8, 8, 8, 8, 8, 8, 8, 8, 8, 8, 8, 8, 8, 8, 8, 8, 8, 8, 8, 8, 8, 8, 8, 8, 8, 8, 8, 8, 8, 8, 8, 8, 8, 8, 8, 8, 8, 8, 8, 8, 8, 8, 8, 8, 8, 8, 8, 8, 8, 8, 8, 8, 8, 8, 8, 8, 8, 8, 8, 8, 8, 8, 8, 8, 8, 8, 8, 8, 8, 8, 8, 8, 8, 8, 8, 8, 8, 8, 8, 8, 8, 8, 8, 8, 8, 8, 8, 8, 8, 8, 8, 8, 8, 8]⟩ : ByteArray) : Nat) : Int)) (some ((IntKind.wrap .i64 (y12 + (IntKind.wrap .i64 ((((((ByteArray.data (⟨#[0, 1, 2, 2, 3, 3, 3, 3, 4, 4, 4, 4, 4, 4, 4, 4, 5, 5, 5, 5, 5, 5, 5, 5, 5, 5, 5, 5, 5, 5, 5, 5, 6, 6, 6, 6, 6, 6, 6, 6, 6, 6, 6, 6, 6, 6, 6, 6, 6, 6, 6, 6, 6, 6, 6, 6, 6, 6, 6, 6, 6, 6, 6, 6, 7, 7, 7, 7, 7, 7, 7, 7, 7, 7, 7, 7, 7, 7, 7, 7, 7, 7, 7, 7, 7, 7, 7, 7, 7, 7, 7, 7, 7, 7, 7, 7, 7, 7, 7, 7, 7, 7, 7, 7, 7, 7, 7, 7, 7, 7, 7, 7, 7, 7, 7, 7, 7, 7, 7, 7, 7, 7, 7, 7, 7, 7, 7, 7, 8, 8, 8, 8, 8, 8, 8, 8, 8, 8, 8, 8, 8, 8, 8, 8, 8, 8, 8, 8, 8, 8, 8, 8, 8, 8, 8, 8, 8, 8, 8, 8, 8, 8, 8, 8, 8, 8, 8, 8, 8, 8, 8, 8, 8, 8, 8, 8, 8, 8, 8, 8, 8, 8, 8, 8, 8, 8, 8, 8, 8, 8, 8, 8, 8, 8, 8, 8, 8, 8, 8, 8, 8, 8, 8, 8, 8, 8, 8, 8, 8, 8, 8, 8, 8, 8, 8, 8, 8, 8, 8, 8, 8, 8, 8, 8, 8, 8, 8, 8, 8, 8, 8, 8, 8, 8, 8, 8, 8, 8, 8, 8, 8, 8, 8, 8, 8, 8, 8, 8, 8, 8, 8, 8, 8, 8, 8, 8]⟩ : ByteArray))[Int.toNat (IntKind.wrap .u8 (y11))]?).map UInt8.toNat).getD 0 : Nat) : Int))))), h9)))
| .ret rr13 => (some (rr13, h9))
| .ex0 _ => none
| .ex1 _ => none)
| .ret rr14 => (some (rr14, h5))
| .ex0 _ => none
| .ex1 _ => none)
| .ret rr15 => (some (rr15, h1))
| .ex0 _ => none
| .ex1 _ => none)
def math_bits_Len64.A : Ann := { lits := [], conds := [(4, [0, 2], [.leaf (.int .u64), .leaf (.int .i64)], none, none), (8, [0, 2], [.leaf (.int .u64), .leaf (.int .i64)], none, none), (14, [0, 2], [.leaf (.int .u64), .leaf (.int .i64)], none, none)], loops := [], regs := [] }
theorem math_bits_Len64.eq : ∀ (x : TT [.leaf (.int .u64)]) (h : H), evalFn Try.prog (math_bits_Len64.tb) math_bits_Len64.A Try.f91 (.one (.leaf (.int .i64))) (TT.un [.leaf (.int .u64)] x) h = math_bits_Len64 x h := by
  intro x h
  kernel_rfl
noncomputable def math_bits_Len64.e : Entry := mkX [.leaf (.int .u64)] (.one (.leaf (.int .i64))) fun x h => math_bits_Len64 x h
theorem math_bits_Len64.ok : EntryOK Try.prog 91 (math_bits_Len64.e) := mkX_ok (math_bits_Len64.tbok) Try.mixed Try.func91 (by kernel_rfl) (math_bits_Len64.eq)
noncomputable def math_bits_Len64P (a0 : Int) : Option (Int) := (math_bits_Len64 a0 H.empty).bind fun p => rdRes false p.2 (.one (.leaf (.int .i64))) (Res.un (.one (.leaf (.int .i64))) p.1)
theorem math_bits_Len64P.eq : ∀ x : TT [.leaf (.int .u64)], ((evalFn Try.prog (math_bits_Len64.tb) math_bits_Len64.A Try.f91 (.one (.leaf (.int .i64))) (TT.lo false [.leaf (.int .u64)] x) H.empty).bind fun p => rdRes false p.2 (.one (.leaf (.int .i64))) (Res.un (.one (.leaf (.int .i64))) p.1)) = math_bits_Len64P x := by
  intro x
  rw [show TT.lo false [.leaf (.int .u64)] x = TT.un [.leaf (.int .u64)] (x) from rfl, math_bits_Len64.eq]
  rfl
noncomputable def math_bits_Len64P.e : Entry := mkP [.leaf (.int .u64)] (.one (.leaf (.int .i64))) fun x => math_bits_Len64P x
theorem math_bits_Len64P.ok : EntryOK Try.prog 91 (math_bits_Len64P.e) := mkP_ok (math_bits_Len64.tbok) Try.mixed Try.func91 (by kernel_rfl) math_bits_Len64P.eq

/-! ### math/bits.LeadingZeros64: function 87 -/
noncomputable def math_bits_LeadingZeros64.tb : Table := tab [(91, math_bits_Len64P.e)] [] Table.nil
theorem math_bits_LeadingZeros64.tbok : TabOK Try.prog (math_bits_LeadingZeros64.tb) := TabOK.tab (TabOK.nil Try.prog) (all_cons math_bits_Len64P.ok (all_nil _)) (all_nil _)
noncomputable def math_bits_LeadingZeros64 (a0 : Int) (h : H) : Option ((Int) × H) :=
((math_bits_Len64P a0).bind fun r1 =>
(some ((IntKind.wrap .i64 (64 - r1)), h)))
def math_bits_LeadingZeros64.A : Ann := { lits := [], conds := [], loops := [], regs := [] }
theorem math_bits_LeadingZeros64.eq : ∀ (x : TT [.leaf (.int .u64)]) (h : H), evalFn Try.prog (math_bits_LeadingZeros64.tb) math_bits_LeadingZeros64.A Try.f87 (.one (.leaf (.int .i64))) (TT.un [.leaf (.int .u64)] x) h = math_bits_LeadingZeros64 x h := by
  intro x h
  kernel_rfl
noncomputable def math_bits_LeadingZeros64.e : Entry := mkX [.leaf (.int .u64)] (.one (.leaf (.int .i64))) fun x h => math_bits_LeadingZeros64 x h
theorem math_bits_LeadingZeros64.ok : EntryOK Try.prog 87 (math_bits_LeadingZeros64.e) := mkX_ok (math_bits_LeadingZeros64.tbok) Try.mixed Try.func87 (by kernel_rfl) (math_bits_LeadingZeros64.eq)
noncomputable def math_bits_LeadingZeros64P (a0 : Int) : Option (Int) := (math_bits_LeadingZeros64 a0 H.empty).bind fun p => rdRes false p.2 (.one (.leaf (.int .i64))) (Res.un (.one (.leaf (.int .i64))) p.1)
theorem math_bits_LeadingZeros64P.eq : ∀ x : TT [.leaf (.int .u64)], ((evalFn Try.prog (math_bits_LeadingZeros64.tb) math_bits_LeadingZeros64.A Try.f87 (.one (.leaf (.int .i64))) (TT.lo false [.leaf (.int .u64)] x) H.empty).bind fun p => rdRes false p.2 (.one (.leaf (.int .i64))) (Res.un (.one (.leaf (.int .i64))) p.1)) = math_bits_LeadingZeros64P x := by
  intro x
  rw [show TT.lo false [.leaf (.int .u64)] x = TT.un [.leaf (.int .u64)] (x) from rfl, math_bits_LeadingZeros64.eq]
  rfl
noncomputable def math_bits_LeadingZeros64P.e : Entry := mkP [.leaf (.int .u64)] (.one (.leaf (.int .i64))) fun x => math_bits_LeadingZeros64P x
theorem math_bits_LeadingZeros64P.ok : EntryOK Try.prog 87 (math_bits_LeadingZeros64P.e) := mkP_ok (math_bits_LeadingZeros64.tbok) Try.mixed Try.func87 (by kernel_rfl) math_bits_LeadingZeros64P.eq

/-! ### math/bits.Div64: function 79 -/
noncomputable def math_bits_Div64.tb : Table := tab [(87, math_bits_LeadingZeros64P.e)] [] Table.nil
theorem math_bits_Div64.tbok : TabOK Try.prog (math_bits_Div64.tb) := TabOK.tab (TabOK.nil Try.prog) (all_cons math_bits_LeadingZeros64P.ok (all_nil _)) (all_nil _)
noncomputable def math_bits_Div64.loop1 (a1 : Int) (a2 : Int) (r6 : Int) : (Int × Int) × H → Option (Stp ((Int × Int) × H) (Flow (Int) (Int × Int) × H)) := fun ((y7, y8), h9) =>
(((bif !(decide ((4294967296 : Int) ≤ y7)) then (some ((decide ((IntKind.wrap .u64 ((IntKind.wrap .u64 (4294967296 * y8)) + (Int.fdiv (IntKind.wrap .u64 (a1 * 2 ^ (min (Int.toNat (IntKind.wrap .u64 (r6))) (IntKind.bits .u64)))) (2 ^ (min (Int.toNat 32) (IntKind.bits .u64)))))) < (IntKind.wrap .u64 (y7 * (bitsI .and .u64 (IntKind.wrap .u64 (a2 * 2 ^ (min (Int.toNat (IntKind.wrap .u64 (r6))) (IntKind.bits .u64)))) 4294967295))))), h9)) else (some (true, h9)))).bind fun (y10, h11) =>
(bif y10 then (bif (decide ((4294967296 : Int) ≤ (IntKind.wrap .u64 (y8 + (Int.fdiv (IntKind.wrap .u64 (a2 * 2 ^ (min (Int.toNat (IntKind.wrap .u64 (r6))) (IntKind.bits .u64)))) (2 ^ (min (Int.toNat 32) (IntKind.bits .u64)))))))) then (some (.done (.ex0 (IntKind.wrap .u64 (y7 - 1)), h11))) else (some (.more (((IntKind.wrap .u64 (y7 - 1)), (IntKind.wrap .u64 (y8 + (Int.fdiv (IntKind.wrap .u64 (a2 * 2 ^ (min (Int.toNat (IntKind.wrap .u64 (r6))) (IntKind.bits .u64)))) (2 ^ (min (Int.toNat 32) (IntKind.bits .u64))))))), h11)))) else (some (.done (.ex0 y7, h11)))))
noncomputable def math_bits_Div64.loop2 (a1 : Int) (a2 : Int) (r6 : Int) : (Int × Int) × H → Option (Stp ((Int × Int) × H) (Flow (Int) (Int × Int) × H)) := fun ((y16, y17), h18) =>
(((bif !(decide ((4294967296 : Int) ≤ y16)) then (some ((decide ((IntKind.wrap .u64 ((IntKind.wrap .u64 (4294967296 * y17)) + (bitsI .and .u64 (IntKind.wrap .u64 (a1 * 2 ^ (min (Int.toNat (IntKind.wrap .u64 (r6))) (IntKind.bits .u64)))) 4294967295))) < (IntKind.wrap .u64 (y16 * (bitsI .and .u64 (IntKind.wrap .u64 (a2 * 2 ^ (min (Int.toNat (IntKind.wrap .u64 (r6))) (IntKind.bits .u64)))) 4294967295))))), h18)) else (some (true, h18)))).bind fun (y19, h20) =>
(bif y19 then (bif (decide ((4294967296 : Int) ≤ (IntKind.wrap .u64 (y17 + (Int.fdiv (IntKind.wrap .u64 (a2 * 2 ^ (min (Int.toNat (IntKind.wrap .u64 (r6))) (IntKind.bits .u64)))) (2 ^ (min (Int.toNat 32) (IntKind.bits .u64)))))))) then (some (.done (.ex0 (IntKind.wrap .u64 (y16 - 1)), h20))) else (some (.more (((IntKind.wrap .u64 (y16 - 1)), (IntKind.wrap .u64 (y17 + (Int.fdiv (IntKind.wrap .u64 (a2 * 2 ^ (min (Int.toNat (IntKind.wrap .u64 (r6))) (IntKind.bits .u64)))) (2 ^ (min (Int.toNat 32) (IntKind.bits .u64))))))), h20)))) else (some (.done (.ex0 y16, h20)))))
noncomputable def math_bits_Div64 (a0 : Int) (a1 : Int) (a2 : Int) (h : H) : Option ((Int × Int) × H) :=
((bif (decide (a2 = 0)) then none else (some (.next (), h)) : Option (Flow (Unit) (Int × Int) × H)).bind fun (fl2, h1) => match fl2 with
| .next _ =>
((bif (decide (a2 ≤ a0)) then none else (some (.next (), h1)) : Option (Flow (Unit) (Int × Int) × H)).bind fun (fl4, h3) => match fl4 with
| .next _ =>
(bif (decide (a0 = 0)) then (let h5 : H := H.reserve h3 0
(guardO (a2 ≠ 0) (guardO (a2 ≠ 0) (some (((IntKind.wrap .u64 (Int.tdiv a1 a2)), (Int.tmod a1 a2)), h5))))) else ((math_bits_LeadingZeros64P a2).bind fun r6 =>
(guardO (0 ≤ (IntKind.wrap .u64 (r6))) (guardO (0 ≤ (IntKind.wrap .u64 (r6))) (guardO (0 ≤ (IntKind.wrap .u64 (64 - (IntKind.wrap .u64 (r6))))) (guardO (0 ≤ (IntKind.wrap .u64 (r6))) (guardO ((Int.fdiv (IntKind.wrap .u64 (a2 * 2 ^ (min (Int.toNat (IntKind.wrap .u64 (r6))) (IntKind.bits .u64)))) (2 ^ (min (Int.toNat 32) (IntKind.bits .u64)))) ≠ 0) ((iter FUEL (math_bits_Div64.loop1 a1 a2 r6) (((IntKind.wrap .u64 (Int.tdiv (bitsI .or .u64 (IntKind.wrap .u64 (a0 * 2 ^ (min (Int.toNat (IntKind.wrap .u64 (r6))) (IntKind.bits .u64)))) (Int.fdiv a1 (2 ^ (min (Int.toNat (IntKind.wrap .u64 (64 - (IntKind.wrap .u64 (r6))))) (IntKind.bits .u64))))) (Int.fdiv (IntKind.wrap .u64 (a2 * 2 ^ (min (Int.toNat (IntKind.wrap .u64 (r6))) (IntKind.bits .u64)))) (2 ^ (min (Int.toNat 32) (IntKind.bits .u64)))))), (IntKind.wrap .u64 ((bitsI .or .u64 (IntKind.wrap .u64 (a0 * 2 ^ (min (Int.toNat (IntKind.wrap .u64 (r6))) (IntKind.bits .u64)))) (Int.fdiv a1 (2 ^ (min (Int.toNat (IntKind.wrap .u64 (64 - (IntKind.wrap .u64 (r6))))) (IntKind.bits .u64))))) - (IntKind.wrap .u64 ((IntKind.wrap .u64 (Int.tdiv (bitsI .or .u64 (IntKind.wrap .u64 (a0 * 2 ^ (min (Int.toNat (IntKind.wrap .u64 (r6))) (IntKind.bits .u64)))) (Int.fdiv a1 (2 ^ (min (Int.toNat (IntKind.wrap .u64 (64 - (IntKind.wrap .u64 (r6))))) (IntKind.bits .u64))))) (Int.fdiv (IntKind.wrap .u64 (a2 * 2 ^ (min (Int.toNat (IntKind.wrap .u64 (r6))) (IntKind.bits .u64)))) (2 ^ (min (Int.toNat 32) (IntKind.bits .u64)))))) * (Int.fdiv (IntKind.wrap .u64 (a2 * 2 ^ (min (Int.toNat (IntKind.wrap .u64 (r6))) (IntKind.bits .u64)))) (2 ^ (min (Int.toNat 32) (IntKind.bits .u64))))))))), h3)).bind fun (fl13, h12) => match fl13 with
| .next _ => none
| .ret rr14 => (some (rr14, h12))
| .ex0 y15 =>
(guardO ((Int.fdiv (IntKind.wrap .u64 (a2 * 2 ^ (min (Int.toNat (IntKind.wrap .u64 (r6))) (IntKind.bits .u64)))) (2 ^ (min (Int.toNat 32) (IntKind.bits .u64)))) ≠ 0) ((iter FUEL (math_bits_Div64.loop2 a1 a2 r6) (((IntKind.wrap .u64 (Int.tdiv (IntKind.wrap .u64 ((IntKind.wrap .u64 ((IntKind.wrap .u64 ((bitsI .or .u64 (IntKind.wrap .u64 (a0 * 2 ^ (min (Int.toNat (IntKind.wrap .u64 (r6))) (IntKind.bits .u64)))) (Int.fdiv a1 (2 ^ (min (Int.toNat (IntKind.wrap .u64 (64 - (IntKind.wrap .u64 (r6))))) (IntKind.bits .u64))))) * 4294967296)) + (Int.fdiv (IntKind.wrap .u64 (a1 * 2 ^ (min (Int.toNat (IntKind.wrap .u64 (r6))) (IntKind.bits .u64)))) (2 ^ (min (Int.toNat 32) (IntKind.bits .u64)))))) - (IntKind.wrap .u64 (y15 * (IntKind.wrap .u64 (a2 * 2 ^ (min (Int.toNat (IntKind.wrap .u64 (r6))) (IntKind.bits .u64)))))))) (Int.fdiv (IntKind.wrap .u64 (a2 * 2 ^ (min (Int.toNat (IntKind.wrap .u64 (r6))) (IntKind.bits .u64)))) (2 ^ (min (Int.toNat 32) (IntKind.bits .u64)))))), (IntKind.wrap .u64 ((IntKind.wrap .u64 ((IntKind.wrap .u64 ((IntKind.wrap .u64 ((bitsI .or .u64 (IntKind.wrap .u64 (a0 * 2 ^ (min (Int.toNat (IntKind.wrap .u64 (r6))) (IntKind.bits .u64)))) (Int.fdiv a1 (2 ^ (min (Int.toNat (IntKind.wrap .u64 (64 - (IntKind.wrap .u64 (r6))))) (IntKind.bits .u64))))) * 4294967296)) + (Int.fdiv (IntKind.wrap .u64 (a1 * 2 ^ (min (Int.toNat (IntKind.wrap .u64 (r6))) (IntKind.bits .u64)))) (2 ^ (min (Int.toNat 32) (IntKind.bits .u64)))))) - (IntKind.wrap .u64 (y15 * (IntKind.wrap .u64 (a2 * 2 ^ (min (Int.toNat (IntKind.wrap .u64 (r6))) (IntKind.bits .u64)))))))) - (IntKind.wrap .u64 ((IntKind.wrap .u64 (Int.tdiv (IntKind.wrap .u64 ((IntKind.wrap .u64 ((IntKind.wrap .u64 ((bitsI .or .u64 (IntKind.wrap .u64 (a0 * 2 ^ (min (Int.toNat (IntKind.wrap .u64 (r6))) (IntKind.bits .u64)))) (Int.fdiv a1 (2 ^ (min (Int.toNat (IntKind.wrap .u64 (64 - (IntKind.wrap .u64 (r6))))) (IntKind.bits .u64))))) * 4294967296)) + (Int.fdiv (IntKind.wrap .u64 (a1 * 2 ^ (min (Int.toNat (IntKind.wrap .u64 (r6))) (IntKind.bits .u64)))) (2 ^ (min (Int.toNat 32) (IntKind.bits .u64)))))) - (IntKind.wrap .u64 (y15 * (IntKind.wrap .u64 (a2 * 2 ^ (min (Int.toNat (IntKind.wrap .u64 (r6))) (IntKind.bits .u64)))))))) (Int.fdiv (IntKind.wrap .u64 (a2 * 2 ^ (min (Int.toNat (IntKind.wrap .u64 (r6))) (IntKind.bits .u64)))) (2 ^ (min (Int.toNat 32) (IntKind.bits .u64)))))) * (Int.fdiv (IntKind.wrap .u64 (a2 * 2 ^ (min (Int.toNat (IntKind.wrap .u64 (r6))) (IntKind.bits .u64)))) (2 ^ (min (Int.toNat 32) (IntKind.bits .u64))))))))), h12)).bind fun (fl22, h21) => match fl22 with
| .next _ => none
| .ret rr23 => (some (rr23, h21))
| .ex0 y24 =>
(guardO (0 ≤ (IntKind.wrap .u64 (r6))) (some (((IntKind.wrap .u64 ((IntKind.wrap .u64 (y15 * 4294967296)) + y24)), (Int.fdiv (IntKind.wrap .u64 ((IntKind.wrap .u64 ((IntKind.wrap .u64 ((IntKind.wrap .u64 ((IntKind.wrap .u64 ((IntKind.wrap .u64 ((bitsI .or .u64 (IntKind.wrap .u64 (a0 * 2 ^ (min (Int.toNat (IntKind.wrap .u64 (r6))) (IntKind.bits .u64)))) (Int.fdiv a1 (2 ^ (min (Int.toNat (IntKind.wrap .u64 (64 - (IntKind.wrap .u64 (r6))))) (IntKind.bits .u64))))) * 4294967296)) + (Int.fdiv (IntKind.wrap .u64 (a1 * 2 ^ (min (Int.toNat (IntKind.wrap .u64 (r6))) (IntKind.bits .u64)))) (2 ^ (min (Int.toNat 32) (IntKind.bits .u64)))))) - (IntKind.wrap .u64 (y15 * (IntKind.wrap .u64 (a2 * 2 ^ (min (Int.toNat (IntKind.wrap .u64 (r6))) (IntKind.bits .u64)))))))) * 4294967296)) + (bitsI .and .u64 (IntKind.wrap .u64 (a1 * 2 ^ (min (Int.toNat (IntKind.wrap .u64 (r6))) (IntKind.bits .u64)))) 4294967295))) - (IntKind.wrap .u64 (y24 * (IntKind.wrap .u64 (a2 * 2 ^ (min (Int.toNat (IntKind.wrap .u64 (r6))) (IntKind.bits .u64)))))))) (2 ^ (min (Int.toNat (IntKind.wrap .u64 (r6))) (IntKind.bits .u64))))), h21)))
| .ex1 _ => none))
| .ex1 _ => none))))))))
| .ret rr25 => (some (rr25, h3))
| .ex0 _ => none
| .ex1 _ => none)
| .ret rr26 => (some (rr26, h1))
| .ex0 _ => none
| .ex1 _ => none)
def math_bits_Div64.A : Ann := { lits := [], conds := [(20, [], [], none, none), (24, [], [], none, none)], loops := [(17, [15, 16], [.leaf (.int .u64), .leaf (.int .u64)], [15], [.leaf (.int .u64)], some 0, none), (24, [18, 16], [.leaf (.int .u64), .leaf (.int .u64)], [18], [.leaf (.int .u64)], some 2, none)], regs := [(17, [78], [.leaf .bool]), (24, [113], [.leaf .bool])] }
theorem math_bits_Div64.eq : ∀ (x : TT [.leaf (.int .u64), .leaf (.int .u64), .leaf (.int .u64)]) (h : H), evalFn Try.prog (math_bits_Div64.tb) math_bits_Div64.A Try.f79 (.many [.leaf (.int .u64), .leaf (.int .u64)]) (TT.un [.leaf (.int .u64), .leaf (.int .u64), .leaf (.int .u64)] x) h = math_bits_Div64 x.1 x.2.1 x.2.2 h := by
  intro x h
  kernel_rfl
noncomputable def math_bits_Div64.e : Entry := mkX [.leaf (.int .u64), .leaf (.int .u64), .leaf (.int .u64)] (.many [.leaf (.int .u64), .leaf (.int .u64)]) fun x h => math_bits_Div64 x.1 x.2.1 x.2.2 h
theorem math_bits_Div64.ok : EntryOK Try.prog 79 (math_bits_Div64.e) := mkX_ok (math_bits_Div64.tbok) Try.mixed Try.func79 (by kernel_rfl) (math_bits_Div64.eq)
noncomputable def math_bits_Div64P (a0 : Int) (a1 : Int) (a2 : Int) : Option (Int × Int) := (math_bits_Div64 a0 a1 a2 H.empty).bind fun p => rdRes false p.2 (.many [.leaf (.int .u64), .leaf (.int .u64)]) (Res.un (.many [.leaf (.int .u64), .leaf (.int .u64)]) p.1)
theorem math_bits_Div64P.eq : ∀ x : TT [.leaf (.int .u64), .leaf (.int .u64), .leaf (.int .u64)], ((evalFn Try.prog (math_bits_Div64.tb) math_bits_Div64.A Try.f79 (.many [.leaf (.int .u64), .leaf (.int .u64)]) (TT.lo false [.leaf (.int .u64), .leaf (.int .u64), .leaf (.int .u64)] x) H.empty).bind fun p => rdRes false p.2 (.many [.leaf (.int .u64), .leaf (.int .u64)]) (Res.un (.many [.leaf (.int .u64), .leaf (.int .u64)]) p.1)) = math_bits_Div64P x.1 x.2.1 x.2.2 := by
  intro x
  rw [show TT.lo false [.leaf (.int .u64), .leaf (.int .u64), .leaf (.int .u64)] x = TT.un [.leaf (.int .u64), .leaf (.int .u64), .leaf (.int .u64)] (x.1, x.2.1, x.2.2) from rfl, math_bits_Div64.eq]
  rfl
noncomputable def math_bits_Div64P.e : Entry := mkP [.leaf (.int .u64), .leaf (.int .u64), .leaf (.int .u64)] (.many [.leaf (.int .u64), .leaf (.int .u64)]) fun x => math_bits_Div64P x.1 x.2.1 x.2.2
theorem math_bits_Div64P.ok : EntryOK Try.prog 79 (math_bits_Div64P.e) := mkP_ok (math_bits_Div64.tbok) Try.mixed Try.func79 (by kernel_rfl) math_bits_Div64P.eq
end Go.Proofs.Ytadlfinlbaogeaa
