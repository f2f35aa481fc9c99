/- The functions of the program as Lean functions, each with the equation by which the evaluator is that function. Written by a program of this session (evdrive.py). Conditions: none. -/
import Derived.Test.YtaepkinihaipkaaProg
import Derived.Test.YtaepkinihaipkaaEvSpec
import Derived.Test.YtaepkinihaipkaaFn4
namespace Go.Proofs.Ytaepkinihaipkaa
open Go Go.Proofs.Ytaepkinihaipkaa.Ev
set_option maxRecDepth 100000
set_option linter.unusedVariables false
/-! ### spile/spileref21.Plus: function 47 -/
noncomputable def spileref21_Plus.tb : Table := tab [] [] Table.nil
theorem spileref21_Plus.tbok : TabOK Try.prog (spileref21_Plus.tb) := TabOK.tab (TabOK.nil Try.prog) (all_nil _) (all_nil _)
noncomputable def spileref21_Plus (a0 : (Int × Int)) (a1 : (Int × Int)) (h : H) : Option (((Int × Int)) × H) :=
(match a0 with
| (a0_0, a0_1) =>
(match a1 with
| (a1_0, a1_1) =>
(let h1 : H := H.new h [.int .i64 a0_0, .int .i64 a0_1] 2
(let h2 : H := H.new h1 [.int .i64 a1_0, .int .i64 a1_1] 2
(let h3 : H := H.new h2 [.int .i64 0, .int .i64 0] 2
((rdT (.leaf (.int .i64)) h3 (.hp h.next 2 0)).bind fun x4 =>
((rdT (.leaf (.int .i64)) h3 (.hp h1.next 2 0)).bind fun x5 =>
((rdT (.leaf (.int .i64)) h3 (.hp h.next 2 1)).bind fun x6 =>
((rdT (.leaf (.int .i64)) h3 (.hp h1.next 2 1)).bind fun x7 =>
((H.wrs h3 (.hp h2.next 2 0) [.int .i64 (IntKind.wrap .i64 (x4 + x5)), .int .i64 (IntKind.wrap .i64 (x6 + x7))]).bind fun h8 =>
((rdT (.agg [.int .i64, .int .i64]) h8 (.hp h2.next 2 0 : V)).bind fun (x9_0, x9_1) =>
(some ((x9_0, x9_1), h8)))))))))))))
def spileref21_Plus.A : Ann := { lits := [], conds := [], loops := [], regs := [] }
theorem spileref21_Plus.eq : ∀ (x : TT [.agg [.int .i64, .int .i64], .agg [.int .i64, .int .i64]]) (h : H), evalFn Try.prog (spileref21_Plus.tb) spileref21_Plus.A Try.f47 (.one (.agg [.int .i64, .int .i64])) (TT.un [.agg [.int .i64, .int .i64], .agg [.int .i64, .int .i64]] x) h = spileref21_Plus x.1 x.2 h := by
  intro x h
  kernel_rfl
noncomputable def spileref21_Plus.e : Entry := mkX [.agg [.int .i64, .int .i64], .agg [.int .i64, .int .i64]] (.one (.agg [.int .i64, .int .i64])) fun x h => spileref21_Plus x.1 x.2 h
theorem spileref21_Plus.ok : EntryOK Try.prog 47 (spileref21_Plus.e) := mkX_ok (spileref21_Plus.tbok) Try.mixed Try.func47 (by kernel_rfl) (spileref21_Plus.eq)
noncomputable def spileref21_PlusP (a0 : (Int × Int)) (a1 : (Int × Int)) : Option ((Int × Int)) := (spileref21_Plus a0 a1 H.empty).bind fun p => rdRes false p.2 (.one (.agg [.int .i64, .int .i64])) (Res.un (.one (.agg [.int .i64, .int .i64])) p.1)
theorem spileref21_PlusP.eq : ∀ x : TT [.agg [.int .i64, .int .i64], .agg [.int .i64, .int .i64]], ((evalFn Try.prog (spileref21_Plus.tb) spileref21_Plus.A Try.f47 (.one (.agg [.int .i64, .int .i64])) (TT.lo false [.agg [.int .i64, .int .i64], .agg [.int .i64, .int .i64]] x) H.empty).bind fun p => rdRes false p.2 (.one (.agg [.int .i64, .int .i64])) (Res.un (.one (.agg [.int .i64, .int .i64])) p.1)) = spileref21_PlusP x.1 x.2 := by
  intro x
  rw [show TT.lo false [.agg [.int .i64, .int .i64], .agg [.int .i64, .int .i64]] x = TT.un [.agg [.int .i64, .int .i64], .agg [.int .i64, .int .i64]] (x.1, x.2) from rfl, spileref21_Plus.eq]
  rfl
noncomputable def spileref21_PlusP.e : Entry := mkP [.agg [.int .i64, .int .i64], .agg [.int .i64, .int .i64]] (.one (.agg [.int .i64, .int .i64])) fun x => spileref21_PlusP x.1 x.2
theorem spileref21_PlusP.ok : EntryOK Try.prog 47 (spileref21_PlusP.e) := mkP_ok (spileref21_Plus.tbok) Try.mixed Try.func47 (by kernel_rfl) spileref21_PlusP.eq

/-! ### spile/spileref21.total: function 31 -/
noncomputable def spileref21_total.tb : Table := tab [(47, spileref21_PlusP.e)] [] Table.nil
theorem spileref21_total.tbok : TabOK Try.prog (spileref21_total.tb) := TabOK.tab (TabOK.nil Try.prog) (all_cons spileref21_PlusP.ok (all_nil _)) (all_nil _)
noncomputable def spileref21_total.loop1 (a0 : SV) (h1 : H) : (Int) × H → Option (Stp ((Int) × H) (Flow (Unit) ((Int × Int)) × H)) := fun (y4, h5) =>
(bif (decide (y4 < ((a0.len : Nat) : Int))) then (let h6 : H := H.reserve h5 0
((rdT (.agg [.int .i64, .int .i64]) h6 (.hp h1.next 2 0)).bind fun (x7_0, x7_1) =>
(guardO (0 ≤ y4 ∧ y4 < ((a0.len : Nat) : Int)) ((rdT (.agg [.int .i64, .int .i64]) h6 (V.add a0.a (Int.toNat y4 * 2))).bind fun (x8_0, x8_1) =>
((spileref21_PlusP (x7_0, x7_1) (x8_0, x8_1)).bind fun (r9_0, r9_1) =>
((H.wrs h6 (.hp h1.next 2 0) [.int .i64 r9_0, .int .i64 r9_1]).bind fun h10 =>
(some (.more ((IntKind.wrap .i64 (y4 + 1)), h10))))))))) else (some (.done (.ex0 (), h5))))
noncomputable def spileref21_total (a0 : SV) (h : H) : Option (((Int × Int)) × H) :=
(let h1 : H := H.new h [.int .i64 0, .int .i64 0] 2
(let h2 : H := H.new h1 [.int .i64 0, .int .i64 0] 2
((H.wrs h2 (.hp h1.next 2 0) [.int .i64 0, .int .i64 0]).bind fun h3 =>
((iter FUEL (spileref21_total.loop1 a0 h1) (0, h3)).bind fun (fl12, h11) => match fl12 with
| .next _ => none
| .ret rr13 => (some (rr13, h11))
| .ex0 _ =>
((rdT (.agg [.int .i64, .int .i64]) h11 (.hp h1.next 2 0)).bind fun (x14_0, x14_1) =>
((H.wrs h11 (.hp h.next 2 0) [.int .i64 x14_0, .int .i64 x14_1]).bind fun h15 =>
((rdT (.agg [.int .i64, .int .i64]) h15 (.hp h.next 2 0 : V)).bind fun (x16_0, x16_1) =>
(some ((x16_0, x16_1), h15)))))
| .ex1 _ => none))))
def spileref21_total.A : Ann := { lits := [], conds := [], loops := [(3, [4], [.leaf (.int .i64)], [], [], some 0, none)], regs := [] }
theorem spileref21_total.eq : ∀ (x : TT [.leaf .slice]) (h : H), evalFn Try.prog (spileref21_total.tb) spileref21_total.A Try.f31 (.one (.agg [.int .i64, .int .i64])) (TT.un [.leaf .slice] x) h = spileref21_total x h := by
  intro x h
  kernel_rfl
noncomputable def spileref21_total.e : Entry := mkX [.leaf .slice] (.one (.agg [.int .i64, .int .i64])) fun x h => spileref21_total x h
theorem spileref21_total.ok : EntryOK Try.prog 31 (spileref21_total.e) := mkX_ok (spileref21_total.tbok) Try.mixed Try.func31 (by kernel_rfl) (spileref21_total.eq)
noncomputable def spileref21_totalP (a0 : (List (Int × Int))) : Option ((Int × Int)) := (spileref21_total (rowSV false [.int .i64, .int .i64] a0) H.empty).bind fun p => rdRes false p.2 (.one (.agg [.int .i64, .int .i64])) (Res.un (.one (.agg [.int .i64, .int .i64])) p.1)
theorem spileref21_totalP.eq : ∀ x : TT [.leaf (.row [.int .i64, .int .i64])], ((evalFn Try.prog (spileref21_total.tb) spileref21_total.A Try.f31 (.one (.agg [.int .i64, .int .i64])) (TT.lo false [.leaf (.row [.int .i64, .int .i64])] x) H.empty).bind fun p => rdRes false p.2 (.one (.agg [.int .i64, .int .i64])) (Res.un (.one (.agg [.int .i64, .int .i64])) p.1)) = spileref21_totalP x := by
  intro x
  rw [show TT.lo false [.leaf (.row [.int .i64, .int .i64])] x = TT.un [.leaf .slice] ((rowSV false [.int .i64, .int .i64] x)) from rfl, spileref21_total.eq]
  rfl
noncomputable def spileref21_totalP.e : Entry := mkP [.leaf (.row [.int .i64, .int .i64])] (.one (.agg [.int .i64, .int .i64])) fun x => spileref21_totalP x
theorem spileref21_totalP.ok : EntryOK Try.prog 31 (spileref21_totalP.e) := mkP_ok (spileref21_total.tbok) Try.mixed Try.func31 (by kernel_rfl) spileref21_totalP.eq

/-! ### spile/spileref21.Sum: function 12 -/
noncomputable def spileref21_Sum.tb : Table := tab [(30, spileref21_PlainP.e), (31, spileref21_totalP.e)] [] Table.nil
theorem spileref21_Sum.tbok : TabOK Try.prog (spileref21_Sum.tb) := TabOK.tab (TabOK.nil Try.prog) (all_cons spileref21_PlainP.ok (all_cons spileref21_totalP.ok (all_nil _))) (all_nil _)
noncomputable def spileref21_Sum.loop1 (h : H) (a0 : SV) : (Int) × H → Option (Stp ((Int) × H) (Flow (Unit) ((Int × Int) × Int) × H)) := fun (y4, h5) =>
(bif (decide (y4 < ((a0.len : Nat) : Int))) then (guardO (0 ≤ y4 ∧ y4 < ((a0.len : Nat) : Int)) ((rdT (.agg [.int .i64, .int .i64]) h5 (V.add a0.a (Int.toNat y4 * 2))).bind fun (x6_0, x6_1) =>
((spileref21_PlainP (x6_0, x6_1)).bind fun r7 =>
(bif (!r7) then ((H.wrs h5 (.hp h.next 2 0) [.int .i64 0, .int .i64 0]).bind fun h8 =>
((rdT (.agg [.int .i64, .int .i64]) h8 (.hp h.next 2 0 : V)).bind fun (x9_0, x9_1) =>
(some (.done (.ret ((x9_0, x9_1), 1), h8))))) else (some (.more ((IntKind.wrap .i64 (y4 + 1)), h5))))))) else (some (.done (.ex0 (), h5))))
noncomputable def spileref21_Sum (a0 : SV) (h : H) : Option (((Int × Int) × Int) × H) :=
(let h1 : H := H.new h [.int .i64 0, .int .i64 0] 2
(bif (decide ((8 : Int) < ((a0.len : Nat) : Int))) then ((H.wrs h1 (.hp h.next 2 0) [.int .i64 0, .int .i64 0]).bind fun h2 =>
((rdT (.agg [.int .i64, .int .i64]) h2 (.hp h.next 2 0 : V)).bind fun (x3_0, x3_1) =>
(some (((x3_0, x3_1), 8), h2)))) else ((iter FUEL (spileref21_Sum.loop1 h a0) (0, h1)).bind fun (fl11, h10) => match fl11 with
| .next _ => none
| .ret rr12 => (some (rr12, h10))
| .ex0 _ =>
((rdRow true h10 [.int .i64, .int .i64] a0).bind fun s14 =>
((spileref21_totalP s14).bind fun (r13_0, r13_1) =>
(let h15 : H := H.new h10 [.int .i64 0, .int .i64 0] 2
((H.wrs h15 (.hp h10.next 2 0) [.int .i64 r13_0, .int .i64 r13_1]).bind fun h16 =>
((rdT (.agg [.int .i64, .int .i64]) h16 (.hp h10.next 2 0)).bind fun (x17_0, x17_1) =>
((spileref21_PlainP (x17_0, x17_1)).bind fun r18 =>
(bif (!r18) then ((H.wrs h16 (.hp h.next 2 0) [.int .i64 0, .int .i64 0]).bind fun h19 =>
((rdT (.agg [.int .i64, .int .i64]) h19 (.hp h.next 2 0 : V)).bind fun (x20_0, x20_1) =>
(some (((x20_0, x20_1), 15), h19)))) else ((rdT (.agg [.int .i64, .int .i64]) h16 (.hp h10.next 2 0)).bind fun (x21_0, x21_1) =>
((H.wrs h16 (.hp h.next 2 0) [.int .i64 x21_0, .int .i64 x21_1]).bind fun h22 =>
((rdT (.agg [.int .i64, .int .i64]) h22 (.hp h.next 2 0 : V)).bind fun (x23_0, x23_1) =>
(some (((x23_0, x23_1), 0), h22))))))))))))
| .ex1 _ => none)))
def spileref21_Sum.A : Ann := { lits := [], conds := [], loops := [(4, [4], [.leaf (.int .i64)], [], [], some 0, none)], regs := [] }
theorem spileref21_Sum.eq : ∀ (x : TT [.leaf .slice]) (h : H), evalFn Try.prog (spileref21_Sum.tb) spileref21_Sum.A Try.f12 (.many [.agg [.int .i64, .int .i64], .leaf (.int .i64)]) (TT.un [.leaf .slice] x) h = spileref21_Sum x h := by
  intro x h
  kernel_rfl
noncomputable def spileref21_Sum.e : Entry := mkX [.leaf .slice] (.many [.agg [.int .i64, .int .i64], .leaf (.int .i64)]) fun x h => spileref21_Sum x h
theorem spileref21_Sum.ok : EntryOK Try.prog 12 (spileref21_Sum.e) := mkX_ok (spileref21_Sum.tbok) Try.mixed Try.func12 (by kernel_rfl) (spileref21_Sum.eq)
noncomputable def spileref21_SumP (a0 : (List (Int × Int))) : Option ((Int × Int) × Int) := (spileref21_Sum (rowSV false [.int .i64, .int .i64] a0) H.empty).bind fun p => rdRes false p.2 (.many [.agg [.int .i64, .int .i64], .leaf (.int .i64)]) (Res.un (.many [.agg [.int .i64, .int .i64], .leaf (.int .i64)]) p.1)
theorem spileref21_SumP.eq : ∀ x : TT [.leaf (.row [.int .i64, .int .i64])], ((evalFn Try.prog (spileref21_Sum.tb) spileref21_Sum.A Try.f12 (.many [.agg [.int .i64, .int .i64], .leaf (.int .i64)]) (TT.lo false [.leaf (.row [.int .i64, .int .i64])] x) H.empty).bind fun p => rdRes false p.2 (.many [.agg [.int .i64, .int .i64], .leaf (.int .i64)]) (Res.un (.many [.agg [.int .i64, .int .i64], .leaf (.int .i64)]) p.1)) = spileref21_SumP x := by
  intro x
  rw [show TT.lo false [.leaf (.row [.int .i64, .int .i64])] x = TT.un [.leaf .slice] ((rowSV false [.int .i64, .int .i64] x)) from rfl, spileref21_Sum.eq]
  rfl
noncomputable def spileref21_SumP.e : Entry := mkP [.leaf (.row [.int .i64, .int .i64])] (.many [.agg [.int .i64, .int .i64], .leaf (.int .i64)]) fun x => spileref21_SumP x
theorem spileref21_SumP.ok : EntryOK Try.prog 12 (spileref21_SumP.e) := mkP_ok (spileref21_Sum.tbok) Try.mixed Try.func12 (by kernel_rfl) spileref21_SumP.eq

/-! ### spile/spileref01.Product: function 79 -/
noncomputable def spileref01_Product.tb : Table := tab [] [] Table.nil
theorem spileref01_Product.tbok : TabOK Try.prog (spileref01_Product.tb) := TabOK.tab (TabOK.nil Try.prog) (all_nil _) (all_nil _)
noncomputable def spileref01_Product (a0 : Int) (a1 : Int) (h : H) : Option (((Int × Int)) × H) :=
(let h1 : H := H.new h [.int .u64 0, .int .u64 0] 2
((H.wrs h1 (.hp h.next 2 0) [.int .u64 (IntKind.wrap .u64 ((IntKind.wrap .u64 ((IntKind.wrap .u64 ((Int.fdiv (IntKind.wrap .u64 (a0)) (2 ^ (min (Int.toNat 31) (IntKind.bits .u64)))) * (Int.fdiv (IntKind.wrap .u64 (a1)) (2 ^ (min (Int.toNat 31) (IntKind.bits .u64)))))) + (Int.fdiv (IntKind.wrap .u64 ((IntKind.wrap .u64 ((bitsI .and .u64 (IntKind.wrap .u64 (a0)) 2147483647) * (Int.fdiv (IntKind.wrap .u64 (a1)) (2 ^ (min (Int.toNat 31) (IntKind.bits .u64)))))) + (Int.fdiv (IntKind.wrap .u64 ((bitsI .and .u64 (IntKind.wrap .u64 (a0)) 2147483647) * (bitsI .and .u64 (IntKind.wrap .u64 (a1)) 2147483647))) (2 ^ (min (Int.toNat 31) (IntKind.bits .u64)))))) (2 ^ (min (Int.toNat 31) (IntKind.bits .u64)))))) + (Int.fdiv (IntKind.wrap .u64 ((IntKind.wrap .u64 ((Int.fdiv (IntKind.wrap .u64 (a0)) (2 ^ (min (Int.toNat 31) (IntKind.bits .u64)))) * (bitsI .and .u64 (IntKind.wrap .u64 (a1)) 2147483647))) + (bitsI .and .u64 (IntKind.wrap .u64 ((IntKind.wrap .u64 ((bitsI .and .u64 (IntKind.wrap .u64 (a0)) 2147483647) * (Int.fdiv (IntKind.wrap .u64 (a1)) (2 ^ (min (Int.toNat 31) (IntKind.bits .u64)))))) + (Int.fdiv (IntKind.wrap .u64 ((bitsI .and .u64 (IntKind.wrap .u64 (a0)) 2147483647) * (bitsI .and .u64 (IntKind.wrap .u64 (a1)) 2147483647))) (2 ^ (min (Int.toNat 31) (IntKind.bits .u64)))))) 2147483647))) (2 ^ (min (Int.toNat 31) (IntKind.bits .u64)))))), .int .u64 (bitsI .or .u64 (IntKind.wrap .u64 ((bitsI .and .u64 (IntKind.wrap .u64 ((IntKind.wrap .u64 ((Int.fdiv (IntKind.wrap .u64 (a0)) (2 ^ (min (Int.toNat 31) (IntKind.bits .u64)))) * (bitsI .and .u64 (IntKind.wrap .u64 (a1)) 2147483647))) + (bitsI .and .u64 (IntKind.wrap .u64 ((IntKind.wrap .u64 ((bitsI .and .u64 (IntKind.wrap .u64 (a0)) 2147483647) * (Int.fdiv (IntKind.wrap .u64 (a1)) (2 ^ (min (Int.toNat 31) (IntKind.bits .u64)))))) + (Int.fdiv (IntKind.wrap .u64 ((bitsI .and .u64 (IntKind.wrap .u64 (a0)) 2147483647) * (bitsI .and .u64 (IntKind.wrap .u64 (a1)) 2147483647))) (2 ^ (min (Int.toNat 31) (IntKind.bits .u64)))))) 2147483647))) 2147483647) * 2 ^ (min (Int.toNat 31) (IntKind.bits .u64)))) (bitsI .and .u64 (IntKind.wrap .u64 ((bitsI .and .u64 (IntKind.wrap .u64 (a0)) 2147483647) * (bitsI .and .u64 (IntKind.wrap .u64 (a1)) 2147483647))) 2147483647))]).bind fun h2 =>
((rdT (.agg [.int .u64, .int .u64]) h2 (.hp h.next 2 0 : V)).bind fun (x3_0, x3_1) =>
(some ((x3_0, x3_1), h2)))))
def spileref01_Product.A : Ann := { lits := [], conds := [], loops := [], regs := [] }
theorem spileref01_Product.eq : ∀ (x : TT [.leaf (.int .i64), .leaf (.int .i64)]) (h : H), evalFn Try.prog (spileref01_Product.tb) spileref01_Product.A Try.f79 (.one (.agg [.int .u64, .int .u64])) (TT.un [.leaf (.int .i64), .leaf (.int .i64)] x) h = spileref01_Product x.1 x.2 h := by
  intro x h
  kernel_rfl
noncomputable def spileref01_Product.e : Entry := mkX [.leaf (.int .i64), .leaf (.int .i64)] (.one (.agg [.int .u64, .int .u64])) fun x h => spileref01_Product x.1 x.2 h
theorem spileref01_Product.ok : EntryOK Try.prog 79 (spileref01_Product.e) := mkX_ok (spileref01_Product.tbok) Try.mixed Try.func79 (by kernel_rfl) (spileref01_Product.eq)
noncomputable def spileref01_ProductP (a0 : Int) (a1 : Int) : Option ((Int × Int)) := (spileref01_Product a0 a1 H.empty).bind fun p => rdRes false p.2 (.one (.agg [.int .u64, .int .u64])) (Res.un (.one (.agg [.int .u64, .int .u64])) p.1)
theorem spileref01_ProductP.eq : ∀ x : TT [.leaf (.int .i64), .leaf (.int .i64)], ((evalFn Try.prog (spileref01_Product.tb) spileref01_Product.A Try.f79 (.one (.agg [.int .u64, .int .u64])) (TT.lo false [.leaf (.int .i64), .leaf (.int .i64)] x) H.empty).bind fun p => rdRes false p.2 (.one (.agg [.int .u64, .int .u64])) (Res.un (.one (.agg [.int .u64, .int .u64])) p.1)) = spileref01_ProductP x.1 x.2 := by
  intro x
  rw [show TT.lo false [.leaf (.int .i64), .leaf (.int .i64)] x = TT.un [.leaf (.int .i64), .leaf (.int .i64)] (x.1, x.2) from rfl, spileref01_Product.eq]
  rfl
noncomputable def spileref01_ProductP.e : Entry := mkP [.leaf (.int .i64), .leaf (.int .i64)] (.one (.agg [.int .u64, .int .u64])) fun x => spileref01_ProductP x.1 x.2
theorem spileref01_ProductP.ok : EntryOK Try.prog 79 (spileref01_ProductP.e) := mkP_ok (spileref01_Product.tbok) Try.mixed Try.func79 (by kernel_rfl) spileref01_ProductP.eq

/-! ### spile/spileref01.Less: function 80 -/
noncomputable def spileref01_Less.tb : Table := tab [] [] Table.nil
theorem spileref01_Less.tbok : TabOK Try.prog (spileref01_Less.tb) := TabOK.tab (TabOK.nil Try.prog) (all_nil _) (all_nil _)
noncomputable def spileref01_Less (a0 : (Int × Int)) (a1 : (Int × Int)) (h : H) : Option ((Bool) × H) :=
(match a0 with
| (a0_0, a0_1) =>
(match a1 with
| (a1_0, a1_1) =>
(let h1 : H := H.new h [.int .u64 a0_0, .int .u64 a0_1] 2
(let h2 : H := H.new h1 [.int .u64 a1_0, .int .u64 a1_1] 2
((((rdT (.leaf (.int .u64)) h2 (.hp h.next 2 0)).bind fun x3 =>
((rdT (.leaf (.int .u64)) h2 (.hp h1.next 2 0)).bind fun x4 =>
(bif !(decide (x3 < x4)) then ((rdT (.leaf (.int .u64)) h2 (.hp h.next 2 0)).bind fun x5 =>
((rdT (.leaf (.int .u64)) h2 (.hp h1.next 2 0)).bind fun x6 =>
(bif (decide (x5 = x6)) then ((rdT (.leaf (.int .u64)) h2 (.hp h.next 2 1)).bind fun x7 =>
((rdT (.leaf (.int .u64)) h2 (.hp h1.next 2 1)).bind fun x8 =>
(some ((decide (x7 < x8)), h2)))) else (some (false, h2))))) else (some (true, h2)))))).bind fun (y9, h10) =>
(some (y9, h10)))))))
def spileref01_Less.A : Ann := { lits := [], conds := [], loops := [], regs := [(1, [4], [.leaf .bool])] }
theorem spileref01_Less.eq : ∀ (x : TT [.agg [.int .u64, .int .u64], .agg [.int .u64, .int .u64]]) (h : H), evalFn Try.prog (spileref01_Less.tb) spileref01_Less.A Try.f80 (.one (.leaf .bool)) (TT.un [.agg [.int .u64, .int .u64], .agg [.int .u64, .int .u64]] x) h = spileref01_Less x.1 x.2 h := by
  intro x h
  kernel_rfl
noncomputable def spileref01_Less.e : Entry := mkX [.agg [.int .u64, .int .u64], .agg [.int .u64, .int .u64]] (.one (.leaf .bool)) fun x h => spileref01_Less x.1 x.2 h
theorem spileref01_Less.ok : EntryOK Try.prog 80 (spileref01_Less.e) := mkX_ok (spileref01_Less.tbok) Try.mixed Try.func80 (by kernel_rfl) (spileref01_Less.eq)
noncomputable def spileref01_LessP (a0 : (Int × Int)) (a1 : (Int × Int)) : Option (Bool) := (spileref01_Less a0 a1 H.empty).bind fun p => rdRes false p.2 (.one (.leaf .bool)) (Res.un (.one (.leaf .bool)) p.1)
theorem spileref01_LessP.eq : ∀ x : TT [.agg [.int .u64, .int .u64], .agg [.int .u64, .int .u64]], ((evalFn Try.prog (spileref01_Less.tb) spileref01_Less.A Try.f80 (.one (.leaf .bool)) (TT.lo false [.agg [.int .u64, .int .u64], .agg [.int .u64, .int .u64]] x) H.empty).bind fun p => rdRes false p.2 (.one (.leaf .bool)) (Res.un (.one (.leaf .bool)) p.1)) = spileref01_LessP x.1 x.2 := by
  intro x
  rw [show TT.lo false [.agg [.int .u64, .int .u64], .agg [.int .u64, .int .u64]] x = TT.un [.agg [.int .u64, .int .u64], .agg [.int .u64, .int .u64]] (x.1, x.2) from rfl, spileref01_Less.eq]
  rfl
noncomputable def spileref01_LessP.e : Entry := mkP [.agg [.int .u64, .int .u64], .agg [.int .u64, .int .u64]] (.one (.leaf .bool)) fun x => spileref01_LessP x.1 x.2
theorem spileref01_LessP.ok : EntryOK Try.prog 80 (spileref01_LessP.e) := mkP_ok (spileref01_Less.tbok) Try.mixed Try.func80 (by kernel_rfl) spileref01_LessP.eq

/-! ### spile/spileref01.minus: function 81 -/
noncomputable def spileref01_minus.tb : Table := tab [] [] Table.nil
theorem spileref01_minus.tbok : TabOK Try.prog (spileref01_minus.tb) := TabOK.tab (TabOK.nil Try.prog) (all_nil _) (all_nil _)
noncomputable def spileref01_minus (a0 : (Int × Int)) (a1 : (Int × Int)) (h : H) : Option (((Int × Int)) × H) :=
(match a0 with
| (a0_0, a0_1) =>
(match a1 with
| (a1_0, a1_1) =>
(let h1 : H := H.new h [.int .u64 a0_0, .int .u64 a0_1] 2
(let h2 : H := H.new h1 [.int .u64 a1_0, .int .u64 a1_1] 2
(let h3 : H := H.new h2 [.int .u64 0, .int .u64 0] 2
((rdT (.leaf (.int .u64)) h3 (.hp h.next 2 1)).bind fun x4 =>
((rdT (.leaf (.int .u64)) h3 (.hp h1.next 2 1)).bind fun x5 =>
(bif (decide (x4 < x5)) then ((rdT (.leaf (.int .u64)) h3 (.hp h.next 2 0)).bind fun x6 =>
((rdT (.leaf (.int .u64)) h3 (.hp h1.next 2 0)).bind fun x7 =>
((rdT (.leaf (.int .u64)) h3 (.hp h.next 2 1)).bind fun x8 =>
((rdT (.leaf (.int .u64)) h3 (.hp h1.next 2 1)).bind fun x9 =>
((H.wrs h3 (.hp h2.next 2 0) [.int .u64 (IntKind.wrap .u64 ((IntKind.wrap .u64 (x6 - x7)) - 1)), .int .u64 (IntKind.wrap .u64 ((IntKind.wrap .u64 (x8 + 4611686018427387904)) - x9))]).bind fun h10 =>
((rdT (.agg [.int .u64, .int .u64]) h10 (.hp h2.next 2 0 : V)).bind fun (x11_0, x11_1) =>
(some ((x11_0, x11_1), h10)))))))) else ((rdT (.leaf (.int .u64)) h3 (.hp h.next 2 0)).bind fun x12 =>
((rdT (.leaf (.int .u64)) h3 (.hp h1.next 2 0)).bind fun x13 =>
((rdT (.leaf (.int .u64)) h3 (.hp h.next 2 1)).bind fun x14 =>
((rdT (.leaf (.int .u64)) h3 (.hp h1.next 2 1)).bind fun x15 =>
((H.wrs h3 (.hp h2.next 2 0) [.int .u64 (IntKind.wrap .u64 (x12 - x13)), .int .u64 (IntKind.wrap .u64 (x14 - x15))]).bind fun h16 =>
((rdT (.agg [.int .u64, .int .u64]) h16 (.hp h2.next 2 0 : V)).bind fun (x17_0, x17_1) =>
(some ((x17_0, x17_1), h16))))))))))))))))
def spileref01_minus.A : Ann := { lits := [], conds := [], loops := [], regs := [] }
theorem spileref01_minus.eq : ∀ (x : TT [.agg [.int .u64, .int .u64], .agg [.int .u64, .int .u64]]) (h : H), evalFn Try.prog (spileref01_minus.tb) spileref01_minus.A Try.f81 (.one (.agg [.int .u64, .int .u64])) (TT.un [.agg [.int .u64, .int .u64], .agg [.int .u64, .int .u64]] x) h = spileref01_minus x.1 x.2 h := by
  intro x h
  kernel_rfl
noncomputable def spileref01_minus.e : Entry := mkX [.agg [.int .u64, .int .u64], .agg [.int .u64, .int .u64]] (.one (.agg [.int .u64, .int .u64])) fun x h => spileref01_minus x.1 x.2 h
theorem spileref01_minus.ok : EntryOK Try.prog 81 (spileref01_minus.e) := mkX_ok (spileref01_minus.tbok) Try.mixed Try.func81 (by kernel_rfl) (spileref01_minus.eq)
noncomputable def spileref01_minusP (a0 : (Int × Int)) (a1 : (Int × Int)) : Option ((Int × Int)) := (spileref01_minus a0 a1 H.empty).bind fun p => rdRes false p.2 (.one (.agg [.int .u64, .int .u64])) (Res.un (.one (.agg [.int .u64, .int .u64])) p.1)
theorem spileref01_minusP.eq : ∀ x : TT [.agg [.int .u64, .int .u64], .agg [.int .u64, .int .u64]], ((evalFn Try.prog (spileref01_minus.tb) spileref01_minus.A Try.f81 (.one (.agg [.int .u64, .int .u64])) (TT.lo false [.agg [.int .u64, .int .u64], .agg [.int .u64, .int .u64]] x) H.empty).bind fun p => rdRes false p.2 (.one (.agg [.int .u64, .int .u64])) (Res.un (.one (.agg [.int .u64, .int .u64])) p.1)) = spileref01_minusP x.1 x.2 := by
  intro x
  rw [show TT.lo false [.agg [.int .u64, .int .u64], .agg [.int .u64, .int .u64]] x = TT.un [.agg [.int .u64, .int .u64], .agg [.int .u64, .int .u64]] (x.1, x.2) from rfl, spileref01_minus.eq]
  rfl
noncomputable def spileref01_minusP.e : Entry := mkP [.agg [.int .u64, .int .u64], .agg [.int .u64, .int .u64]] (.one (.agg [.int .u64, .int .u64])) fun x => spileref01_minusP x.1 x.2
theorem spileref01_minusP.ok : EntryOK Try.prog 81 (spileref01_minusP.e) := mkP_ok (spileref01_minus.tbok) Try.mixed Try.func81 (by kernel_rfl) spileref01_minusP.eq

/-! ### spile/spileref01.Of: function 66 -/
noncomputable def spileref01_Of.tb : Table := tab [(79, spileref01_ProductP.e), (80, spileref01_LessP.e), (81, spileref01_minusP.e)] [] Table.nil
theorem spileref01_Of.tbok : TabOK Try.prog (spileref01_Of.tb) := TabOK.tab (TabOK.nil Try.prog) (all_cons spileref01_ProductP.ok (all_cons spileref01_LessP.ok (all_cons spileref01_minusP.ok (all_nil _)))) (all_nil _)
noncomputable def spileref01_Of.loop1 (h : H) (a2 : Int) (a3 : Int) : (Int × Int) × H → Option (Stp ((Int × Int) × H) (Flow (Int) (Int × Int × Bool) × H)) := fun ((y14, y15), h16) =>
(bif (decide ((0 : Int) < y15)) then (((let h17 : H := H.reserve h16 0
(bif (decide ((IntKind.wrap .i64 (y14 + y15)) ≤ a3)) then ((rdT (.agg [.int .u64, .int .u64]) h17 (.hp h.next 2 0)).bind fun (x18_0, x18_1) =>
((spileref01_ProductP (IntKind.wrap .i64 (y14 + y15)) a2).bind fun (r19_0, r19_1) =>
((spileref01_LessP (x18_0, x18_1) (r19_0, r19_1)).bind fun r20 =>
(some ((!r20), h17))))) else (some (false, h17))))).bind fun (y21, h22) =>
((bif y21 then (some (.next (IntKind.wrap .i64 (y14 + y15)), h22)) else (some (.next y14, h22)) : Option (Flow (Int) (Int × Int × Bool) × H)).bind fun (fl24, h23) => match fl24 with
| .next y25 =>
(some (.more ((y25, (IntKind.wrap .i64 (Int.tdiv y15 2))), h23)))
| .ret rr26 => (some (.done (.ret rr26, h23)))
| .ex0 _ => none
| .ex1 _ => none)) else (some (.done (.ex0 y14, h16))))
noncomputable def spileref01_Of (a0 : Int) (a1 : Int) (a2 : Int) (a3 : Int) (h : H) : Option ((Int × Int × Bool) × H) :=
((spileref01_ProductP a0 a1).bind fun (r1_0, r1_1) =>
(let h2 : H := H.new h [.int .u64 0, .int .u64 0] 2
((H.wrs h2 (.hp h.next 2 0) [.int .u64 r1_0, .int .u64 r1_1]).bind fun h3 =>
(((let h4 : H := H.reserve h3 0
((spileref01_ProductP a3 a2).bind fun (r5_0, r5_1) =>
((rdT (.agg [.int .u64, .int .u64]) h4 (.hp h.next 2 0)).bind fun (x6_0, x6_1) =>
((spileref01_LessP (r5_0, r5_1) (x6_0, x6_1)).bind fun r7 =>
(bif r7 then ((rdT (.agg [.int .u64, .int .u64]) h4 (.hp h.next 2 0)).bind fun (x8_0, x8_1) =>
((spileref01_ProductP a3 a2).bind fun (r9_0, r9_1) =>
((spileref01_minusP (x8_0, x8_1) (r9_0, r9_1)).bind fun (r10_0, r10_1) =>
((spileref01_LessP (r10_0, r10_1) (0, (IntKind.wrap .u64 (a2)))).bind fun r11 =>
(some ((!r11), h4)))))) else (some (false, h4)))))))).bind fun (y12, h13) =>
(bif y12 then (some ((0, 0, false), h13)) else ((iter FUEL (spileref01_Of.loop1 h a2 a3) ((0, 2305843009213693952), h13)).bind fun (fl28, h27) => match fl28 with
| .next _ => none
| .ret rr29 => (some (rr29, h27))
| .ex0 y30 =>
(let h31 : H := H.reserve h27 0
((rdT (.agg [.int .u64, .int .u64]) h31 (.hp h.next 2 0)).bind fun (x32_0, x32_1) =>
((spileref01_ProductP y30 a2).bind fun (r33_0, r33_1) =>
((spileref01_minusP (x32_0, x32_1) (r33_0, r33_1)).bind fun (r34_0, r34_1) =>
(some ((y30, (IntKind.wrap .i64 (r34_1)), true), h31))))))
| .ex1 _ => none))))))
def spileref01_Of.A : Ann := { lits := [], conds := [(52, [12], [.leaf (.int .i64)], none, none)], loops := [(6, [12, 13], [.leaf (.int .i64), .leaf (.int .i64)], [12], [.leaf (.int .i64)], some 0, none)], regs := [(2, [33], [.leaf .bool]), (8, [52], [.leaf .bool])] }
theorem spileref01_Of.eq : ∀ (x : TT [.leaf (.int .i64), .leaf (.int .i64), .leaf (.int .i64), .leaf (.int .i64)]) (h : H), evalFn Try.prog (spileref01_Of.tb) spileref01_Of.A Try.f66 (.many [.leaf (.int .i64), .leaf (.int .i64), .leaf .bool]) (TT.un [.leaf (.int .i64), .leaf (.int .i64), .leaf (.int .i64), .leaf (.int .i64)] x) h = spileref01_Of x.1 x.2.1 x.2.2.1 x.2.2.2 h := by
  intro x h
  kernel_rfl
noncomputable def spileref01_Of.e : Entry := mkX [.leaf (.int .i64), .leaf (.int .i64), .leaf (.int .i64), .leaf (.int .i64)] (.many [.leaf (.int .i64), .leaf (.int .i64), .leaf .bool]) fun x h => spileref01_Of x.1 x.2.1 x.2.2.1 x.2.2.2 h
theorem spileref01_Of.ok : EntryOK Try.prog 66 (spileref01_Of.e) := mkX_ok (spileref01_Of.tbok) Try.mixed Try.func66 (by kernel_rfl) (spileref01_Of.eq)
noncomputable def spileref01_OfP (a0 : Int) (a1 : Int) (a2 : Int) (a3 : Int) : Option (Int × Int × Bool) := (spileref01_Of a0 a1 a2 a3 H.empty).bind fun p => rdRes false p.2 (.many [.leaf (.int .i64), .leaf (.int .i64), .leaf .bool]) (Res.un (.many [.leaf (.int .i64), .leaf (.int .i64), .leaf .bool]) p.1)
theorem spileref01_OfP.eq : ∀ x : TT [.leaf (.int .i64), .leaf (.int .i64), .leaf (.int .i64), .leaf (.int .i64)], ((evalFn Try.prog (spileref01_Of.tb) spileref01_Of.A Try.f66 (.many [.leaf (.int .i64), .leaf (.int .i64), .leaf .bool]) (TT.lo false [.leaf (.int .i64), .leaf (.int .i64), .leaf (.int .i64), .leaf (.int .i64)] x) H.empty).bind fun p => rdRes false p.2 (.many [.leaf (.int .i64), .leaf (.int .i64), .leaf .bool]) (Res.un (.many [.leaf (.int .i64), .leaf (.int .i64), .leaf .bool]) p.1)) = spileref01_OfP x.1 x.2.1 x.2.2.1 x.2.2.2 := by
  intro x
  rw [show TT.lo false [.leaf (.int .i64), .leaf (.int .i64), .leaf (.int .i64), .leaf (.int .i64)] x = TT.un [.leaf (.int .i64), .leaf (.int .i64), .leaf (.int .i64), .leaf (.int .i64)] (x.1, x.2.1, x.2.2.1, x.2.2.2) from rfl, spileref01_Of.eq]
  rfl
noncomputable def spileref01_OfP.e : Entry := mkP [.leaf (.int .i64), .leaf (.int .i64), .leaf (.int .i64), .leaf (.int .i64)] (.many [.leaf (.int .i64), .leaf (.int .i64), .leaf .bool]) fun x => spileref01_OfP x.1 x.2.1 x.2.2.1 x.2.2.2
theorem spileref01_OfP.ok : EntryOK Try.prog 66 (spileref01_OfP.e) := mkP_ok (spileref01_Of.tbok) Try.mixed Try.func66 (by kernel_rfl) spileref01_OfP.eq

/-! ### spile/spileref01.Proportion: function 50 -/
noncomputable def spileref01_Proportion.tb : Table := tab [(66, spileref01_OfP.e)] [] Table.nil
theorem spileref01_Proportion.tbok : TabOK Try.prog (spileref01_Proportion.tb) := TabOK.tab (TabOK.nil Try.prog) (all_cons spileref01_OfP.ok (all_nil _)) (all_nil _)
noncomputable def spileref01_Proportion (a0 : Int) (a1 : Int) (a2 : Int) (h : H) : Option ((Int × Int) × H) :=
((spileref01_OfP a0 a1 a2 128849018880000).bind fun (r1, r2, r3) =>
(some ((r1, r2), h)))
def spileref01_Proportion.A : Ann := { lits := [], conds := [], loops := [], regs := [] }
theorem spileref01_Proportion.eq : ∀ (x : TT [.leaf (.int .i64), .leaf (.int .i64), .leaf (.int .i64)]) (h : H), evalFn Try.prog (spileref01_Proportion.tb) spileref01_Proportion.A Try.f50 (.many [.leaf (.int .i64), .leaf (.int .i64)]) (TT.un [.leaf (.int .i64), .leaf (.int .i64), .leaf (.int .i64)] x) h = spileref01_Proportion x.1 x.2.1 x.2.2 h := by
  intro x h
  kernel_rfl
noncomputable def spileref01_Proportion.e : Entry := mkX [.leaf (.int .i64), .leaf (.int .i64), .leaf (.int .i64)] (.many [.leaf (.int .i64), .leaf (.int .i64)]) fun x h => spileref01_Proportion x.1 x.2.1 x.2.2 h
theorem spileref01_Proportion.ok : EntryOK Try.prog 50 (spileref01_Proportion.e) := mkX_ok (spileref01_Proportion.tbok) Try.mixed Try.func50 (by kernel_rfl) (spileref01_Proportion.eq)
noncomputable def spileref01_ProportionP (a0 : Int) (a1 : Int) (a2 : Int) : Option (Int × Int) := (spileref01_Proportion a0 a1 a2 H.empty).bind fun p => rdRes false p.2 (.many [.leaf (.int .i64), .leaf (.int .i64)]) (Res.un (.many [.leaf (.int .i64), .leaf (.int .i64)]) p.1)
theorem spileref01_ProportionP.eq : ∀ x : TT [.leaf (.int .i64), .leaf (.int .i64), .leaf (.int .i64)], ((evalFn Try.prog (spileref01_Proportion.tb) spileref01_Proportion.A Try.f50 (.many [.leaf (.int .i64), .leaf (.int .i64)]) (TT.lo false [.leaf (.int .i64), .leaf (.int .i64), .leaf (.int .i64)] x) H.empty).bind fun p => rdRes false p.2 (.many [.leaf (.int .i64), .leaf (.int .i64)]) (Res.un (.many [.leaf (.int .i64), .leaf (.int .i64)]) p.1)) = spileref01_ProportionP x.1 x.2.1 x.2.2 := by
  intro x
  rw [show TT.lo false [.leaf (.int .i64), .leaf (.int .i64), .leaf (.int .i64)] x = TT.un [.leaf (.int .i64), .leaf (.int .i64), .leaf (.int .i64)] (x.1, x.2.1, x.2.2) from rfl, spileref01_Proportion.eq]
  rfl
noncomputable def spileref01_ProportionP.e : Entry := mkP [.leaf (.int .i64), .leaf (.int .i64), .leaf (.int .i64)] (.many [.leaf (.int .i64), .leaf (.int .i64)]) fun x => spileref01_ProportionP x.1 x.2.1 x.2.2
theorem spileref01_ProportionP.ok : EntryOK Try.prog 50 (spileref01_ProportionP.e) := mkP_ok (spileref01_Proportion.tbok) Try.mixed Try.func50 (by kernel_rfl) spileref01_ProportionP.eq

/-! ### spile/spileref21.Take: function 33 -/
noncomputable def spileref21_Take.tb : Table := tab [(50, spileref01_ProportionP.e)] [] Table.nil
theorem spileref21_Take.tbok : TabOK Try.prog (spileref21_Take.tb) := TabOK.tab (TabOK.nil Try.prog) (all_cons spileref01_ProportionP.ok (all_nil _)) (all_nil _)
noncomputable def spileref21_Take (a0 : (Int × Int)) (a1 : Int) (h : H) : Option (((Int × Int)) × H) :=
(match a0 with
| (a0_0, a0_1) =>
(let h1 : H := H.new h [.int .i64 a0_0, .int .i64 a0_1] 2
(let h2 : H := H.new h1 [.int .i64 0, .int .i64 0] 2
((rdT (.leaf (.int .i64)) h2 (.hp h.next 2 1)).bind fun x3 =>
(bif (decide (x3 = 0)) then ((H.wrs h2 (.hp h1.next 2 0) [.int .i64 0, .int .i64 0]).bind fun h4 =>
((rdT (.agg [.int .i64, .int .i64]) h4 (.hp h1.next 2 0 : V)).bind fun (x5_0, x5_1) =>
(some ((x5_0, x5_1), h4)))) else ((rdT (.leaf (.int .i64)) h2 (.hp h.next 2 0)).bind fun x6 =>
((rdT (.leaf (.int .i64)) h2 (.hp h.next 2 1)).bind fun x7 =>
((spileref01_ProportionP x6 a1 x7).bind fun (r8, r9) =>
((H.wrs h2 (.hp h1.next 2 0) [.int .i64 r8, .int .i64 a1]).bind fun h10 =>
((rdT (.agg [.int .i64, .int .i64]) h10 (.hp h1.next 2 0 : V)).bind fun (x11_0, x11_1) =>
(some ((x11_0, x11_1), h10))))))))))))
def spileref21_Take.A : Ann := { lits := [], conds := [], loops := [], regs := [] }
theorem spileref21_Take.eq : ∀ (x : TT [.agg [.int .i64, .int .i64], .leaf (.int .i64)]) (h : H), evalFn Try.prog (spileref21_Take.tb) spileref21_Take.A Try.f33 (.one (.agg [.int .i64, .int .i64])) (TT.un [.agg [.int .i64, .int .i64], .leaf (.int .i64)] x) h = spileref21_Take x.1 x.2 h := by
  intro x h
  kernel_rfl
noncomputable def spileref21_Take.e : Entry := mkX [.agg [.int .i64, .int .i64], .leaf (.int .i64)] (.one (.agg [.int .i64, .int .i64])) fun x h => spileref21_Take x.1 x.2 h
theorem spileref21_Take.ok : EntryOK Try.prog 33 (spileref21_Take.e) := mkX_ok (spileref21_Take.tbok) Try.mixed Try.func33 (by kernel_rfl) (spileref21_Take.eq)
noncomputable def spileref21_TakeP (a0 : (Int × Int)) (a1 : Int) : Option ((Int × Int)) := (spileref21_Take a0 a1 H.empty).bind fun p => rdRes false p.2 (.one (.agg [.int .i64, .int .i64])) (Res.un (.one (.agg [.int .i64, .int .i64])) p.1)
theorem spileref21_TakeP.eq : ∀ x : TT [.agg [.int .i64, .int .i64], .leaf (.int .i64)], ((evalFn Try.prog (spileref21_Take.tb) spileref21_Take.A Try.f33 (.one (.agg [.int .i64, .int .i64])) (TT.lo false [.agg [.int .i64, .int .i64], .leaf (.int .i64)] x) H.empty).bind fun p => rdRes false p.2 (.one (.agg [.int .i64, .int .i64])) (Res.un (.one (.agg [.int .i64, .int .i64])) p.1)) = spileref21_TakeP x.1 x.2 := by
  intro x
  rw [show TT.lo false [.agg [.int .i64, .int .i64], .leaf (.int .i64)] x = TT.un [.agg [.int .i64, .int .i64], .leaf (.int .i64)] (x.1, x.2) from rfl, spileref21_Take.eq]
  rfl
noncomputable def spileref21_TakeP.e : Entry := mkP [.agg [.int .i64, .int .i64], .leaf (.int .i64)] (.one (.agg [.int .i64, .int .i64])) fun x => spileref21_TakeP x.1 x.2
theorem spileref21_TakeP.ok : EntryOK Try.prog 33 (spileref21_TakeP.e) := mkP_ok (spileref21_Take.tbok) Try.mixed Try.func33 (by kernel_rfl) spileref21_TakeP.eq

/-! ### spile/spileref21.Minus: function 34 -/
noncomputable def spileref21_Minus.tb : Table := tab [] [] Table.nil
theorem spileref21_Minus.tbok : TabOK Try.prog (spileref21_Minus.tb) := TabOK.tab (TabOK.nil Try.prog) (all_nil _) (all_nil _)
noncomputable def spileref21_Minus (a0 : (Int × Int)) (a1 : (Int × Int)) (h : H) : Option (((Int × Int)) × H) :=
(match a0 with
| (a0_0, a0_1) =>
(match a1 with
| (a1_0, a1_1) =>
(let h1 : H := H.new h [.int .i64 a0_0, .int .i64 a0_1] 2
(let h2 : H := H.new h1 [.int .i64 a1_0, .int .i64 a1_1] 2
(let h3 : H := H.new h2 [.int .i64 0, .int .i64 0] 2
((rdT (.leaf (.int .i64)) h3 (.hp h.next 2 0)).bind fun x4 =>
((rdT (.leaf (.int .i64)) h3 (.hp h1.next 2 0)).bind fun x5 =>
((rdT (.leaf (.int .i64)) h3 (.hp h.next 2 1)).bind fun x6 =>
((rdT (.leaf (.int .i64)) h3 (.hp h1.next 2 1)).bind fun x7 =>
((H.wrs h3 (.hp h2.next 2 0) [.int .i64 (IntKind.wrap .i64 (x4 - x5)), .int .i64 (IntKind.wrap .i64 (x6 - x7))]).bind fun h8 =>
((rdT (.agg [.int .i64, .int .i64]) h8 (.hp h2.next 2 0 : V)).bind fun (x9_0, x9_1) =>
(some ((x9_0, x9_1), h8)))))))))))))
def spileref21_Minus.A : Ann := { lits := [], conds := [], loops := [], regs := [] }
theorem spileref21_Minus.eq : ∀ (x : TT [.agg [.int .i64, .int .i64], .agg [.int .i64, .int .i64]]) (h : H), evalFn Try.prog (spileref21_Minus.tb) spileref21_Minus.A Try.f34 (.one (.agg [.int .i64, .int .i64])) (TT.un [.agg [.int .i64, .int .i64], .agg [.int .i64, .int .i64]] x) h = spileref21_Minus x.1 x.2 h := by
  intro x h
  kernel_rfl
noncomputable def spileref21_Minus.e : Entry := mkX [.agg [.int .i64, .int .i64], .agg [.int .i64, .int .i64]] (.one (.agg [.int .i64, .int .i64])) fun x h => spileref21_Minus x.1 x.2 h
theorem spileref21_Minus.ok : EntryOK Try.prog 34 (spileref21_Minus.e) := mkX_ok (spileref21_Minus.tbok) Try.mixed Try.func34 (by kernel_rfl) (spileref21_Minus.eq)
noncomputable def spileref21_MinusP (a0 : (Int × Int)) (a1 : (Int × Int)) : Option ((Int × Int)) := (spileref21_Minus a0 a1 H.empty).bind fun p => rdRes false p.2 (.one (.agg [.int .i64, .int .i64])) (Res.un (.one (.agg [.int .i64, .int .i64])) p.1)
theorem spileref21_MinusP.eq : ∀ x : TT [.agg [.int .i64, .int .i64], .agg [.int .i64, .int .i64]], ((evalFn Try.prog (spileref21_Minus.tb) spileref21_Minus.A Try.f34 (.one (.agg [.int .i64, .int .i64])) (TT.lo false [.agg [.int .i64, .int .i64], .agg [.int .i64, .int .i64]] x) H.empty).bind fun p => rdRes false p.2 (.one (.agg [.int .i64, .int .i64])) (Res.un (.one (.agg [.int .i64, .int .i64])) p.1)) = spileref21_MinusP x.1 x.2 := by
  intro x
  rw [show TT.lo false [.agg [.int .i64, .int .i64], .agg [.int .i64, .int .i64]] x = TT.un [.agg [.int .i64, .int .i64], .agg [.int .i64, .int .i64]] (x.1, x.2) from rfl, spileref21_Minus.eq]
  rfl
noncomputable def spileref21_MinusP.e : Entry := mkP [.agg [.int .i64, .int .i64], .agg [.int .i64, .int .i64]] (.one (.agg [.int .i64, .int .i64])) fun x => spileref21_MinusP x.1 x.2
theorem spileref21_MinusP.ok : EntryOK Try.prog 34 (spileref21_MinusP.e) := mkP_ok (spileref21_Minus.tbok) Try.mixed Try.func34 (by kernel_rfl) spileref21_MinusP.eq
end Go.Proofs.Ytaepkinihaipkaa
