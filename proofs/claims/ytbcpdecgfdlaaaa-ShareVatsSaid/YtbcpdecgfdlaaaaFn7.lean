/- The functions of the program as Lean functions, each with the equation by which the evaluator is that function. Written by a program of this session (evdrive.py). Conditions: none. -/
import Derived.Test.YtbcpdecgfdlaaaaProg
import Derived.Test.YtbcpdecgfdlaaaaEvSpec
import Derived.Test.YtbcpdecgfdlaaaaFn6
namespace Go.Proofs.Ytbcpdecgfdlaaaa
open Go Go.Proofs.Ytbcpdecgfdlaaaa.Ev
set_option maxRecDepth 100000
set_option linter.unusedVariables false
/-! ### spile/mix.total: function 74 -/
noncomputable def mix_total.tb : Table := tab [] [] Table.nil
theorem mix_total.tbok : TabOK Try.prog (mix_total.tb) := TabOK.tab (TabOK.nil Try.prog) (all_nil _) (all_nil _)
noncomputable def mix_total.loop1 (a0 : SV) (h1 : H) : (Int) × H → Option (Stp ((Int) × H) (Flow (Unit) ((Int × Int)) × H)) := fun (y3, h4) =>
(bif (decide (y3 < ((a0.len : Nat) : Int))) then (guardO (0 ≤ y3 ∧ y3 < ((a0.len : Nat) : Int)) ((rdT (.agg [.int .i64, .int .i64]) h4 (V.add a0.a (Int.toNat y3 * 2))).bind fun (x5_0, x5_1) =>
(let h6 : H := H.new h4 [.int .i64 0, .int .i64 0] 2
((H.wrs h6 (.hp h4.next 2 0) [.int .i64 x5_0, .int .i64 x5_1]).bind fun h7 =>
(let h8 : H := H.reserve h7 0
((rdT (.leaf (.int .i64)) h8 (.hp h1.next 2 0)).bind fun x9 =>
((rdT (.leaf (.int .i64)) h8 (.hp h4.next 2 0)).bind fun x10 =>
((rdT (.leaf (.int .i64)) h8 (.hp h1.next 2 1)).bind fun x11 =>
((rdT (.leaf (.int .i64)) h8 (.hp h4.next 2 1)).bind fun x12 =>
((H.wrs h8 (.hp h1.next 2 0) [.int .i64 (IntKind.wrap .i64 (x9 + x10))]).bind fun h13 =>
((H.wrs h13 (.hp h1.next 2 1) [.int .i64 (IntKind.wrap .i64 (x11 + x12))]).bind fun h14 =>
(guardO (apartA (.hp h4.next 2 1 : V) (.hp h1.next 2 0 : V) = true) (some (.more ((IntKind.wrap .i64 (y3 + 1)), h14))))))))))))))) else (some (.done (.ex0 (), h4))))
noncomputable def mix_total (a0 : SV) (h : H) : Option (((Int × Int)) × H) :=
(let h1 : H := H.new h [.int .i64 0, .int .i64 0] 2
(let h2 : H := H.new h1 [.int .i64 0, .int .i64 0] 2
((iter FUEL (mix_total.loop1 a0 h1) (0, h2)).bind fun (fl16, h15) => match fl16 with
| .next _ => none
| .ret rr17 => (some (rr17, h15))
| .ex0 _ =>
((rdT (.leaf (.int .i64)) h15 (.hp h1.next 2 0)).bind fun x18 =>
((rdT (.leaf (.int .i64)) h15 (.hp h1.next 2 1)).bind fun x19 =>
((H.wrs h15 (.hp h.next 2 0) [.int .i64 x18, .int .i64 x19]).bind fun h20 =>
((rdT (.agg [.int .i64, .int .i64]) h20 (.hp h.next 2 0 : V)).bind fun (x21_0, x21_1) =>
(some ((x21_0, x21_1), h20))))))
| .ex1 _ => none)))
def mix_total.A : Ann := { lits := [], conds := [], loops := [(3, [8], [.leaf (.int .i64)], [], [], some 0, none)], regs := [] }
theorem mix_total.eq : ∀ (x : TT [.leaf .slice]) (h : H), evalFn Try.prog (mix_total.tb) mix_total.A Try.f74 (.one (.agg [.int .i64, .int .i64])) (TT.un [.leaf .slice] x) h = mix_total x h := by
  intro x h
  kernel_rfl
noncomputable def mix_total.e : Entry := mkX [.leaf .slice] (.one (.agg [.int .i64, .int .i64])) fun x h => mix_total x h
theorem mix_total.ok : EntryOK Try.prog 74 (mix_total.e) := mkX_ok (mix_total.tbok) Try.mixed Try.func74 (by kernel_rfl) (mix_total.eq)
noncomputable def mix_totalP (a0 : (List (Int × Int))) : Option ((Int × Int)) := (mix_total (rowSV false [.int .i64, .int .i64] a0) H.empty).bind fun p => rdRes false p.2 (.one (.agg [.int .i64, .int .i64])) (Res.un (.one (.agg [.int .i64, .int .i64])) p.1)
theorem mix_totalP.eq : ∀ x : TT [.leaf (.row [.int .i64, .int .i64])], ((evalFn Try.prog (mix_total.tb) mix_total.A Try.f74 (.one (.agg [.int .i64, .int .i64])) (TT.lo false [.leaf (.row [.int .i64, .int .i64])] x) H.empty).bind fun p => rdRes false p.2 (.one (.agg [.int .i64, .int .i64])) (Res.un (.one (.agg [.int .i64, .int .i64])) p.1)) = mix_totalP x := by
  intro x
  rw [show TT.lo false [.leaf (.row [.int .i64, .int .i64])] x = TT.un [.leaf .slice] ((rowSV false [.int .i64, .int .i64] x)) from rfl, mix_total.eq]
  rfl
noncomputable def mix_totalP.e : Entry := mkP [.leaf (.row [.int .i64, .int .i64])] (.one (.agg [.int .i64, .int .i64])) fun x => mix_totalP x
theorem mix_totalP.ok : EntryOK Try.prog 74 (mix_totalP.e) := mkP_ok (mix_total.tbok) Try.mixed Try.func74 (by kernel_rfl) mix_totalP.eq

/-! ### spile/mix.Sum: function 49 -/
noncomputable def mix_Sum.tb : Table := tab [(58, mix_plainP.e), (74, mix_totalP.e)] [(73, mix_Sum_1P.e)] Table.nil
theorem mix_Sum.tbok : TabOK Try.prog (mix_Sum.tb) := TabOK.tab (TabOK.nil Try.prog) (all_cons mix_plainP.ok (all_cons mix_totalP.ok (all_nil _))) (all_cons mix_Sum_1P.ok (all_nil _))
noncomputable def mix_Sum (a0 : SV) (h : H) : Option (((Int × Int) × Int) × H) :=
(let h1 : H := H.new h [.int .i64 0, .int .i64 0] 2
(bif (decide ((8 : Int) < ((a0.len : Nat) : Int))) then ((H.wrs h1 (.hp h.next 2 0) [.int .i64 0, .int .i64 0]).bind fun h2 =>
((rdT (.agg [.int .i64, .int .i64]) h2 (.hp h.next 2 0 : V)).bind fun (x3_0, x3_1) =>
(some (((x3_0, x3_1), 8), h2)))) else ((slices_ContainsFunc_api_Liquid_api_Liquid mix_Sum.tb a0 (.func 73 [] : V) h1).bind fun (r4, h5) =>
(bif r4 then ((H.wrs h5 (.hp h.next 2 0) [.int .i64 0, .int .i64 0]).bind fun h6 =>
((rdT (.agg [.int .i64, .int .i64]) h6 (.hp h.next 2 0 : V)).bind fun (x7_0, x7_1) =>
(some (((x7_0, x7_1), 1), h6)))) else ((rdRow true h5 [.int .i64, .int .i64] a0).bind fun s9 =>
((mix_totalP s9).bind fun (r8_0, r8_1) =>
(let h10 : H := H.new h5 [.int .i64 0, .int .i64 0] 2
((H.wrs h10 (.hp h5.next 2 0) [.int .i64 r8_0, .int .i64 r8_1]).bind fun h11 =>
((rdT (.agg [.int .i64, .int .i64]) h11 (.hp h5.next 2 0)).bind fun (x12_0, x12_1) =>
((mix_plainP (x12_0, x12_1)).bind fun r13 =>
(bif r13 then ((rdT (.agg [.int .i64, .int .i64]) h11 (.hp h5.next 2 0)).bind fun (x14_0, x14_1) =>
((H.wrs h11 (.hp h.next 2 0) [.int .i64 x14_0, .int .i64 x14_1]).bind fun h15 =>
((rdT (.agg [.int .i64, .int .i64]) h15 (.hp h.next 2 0 : V)).bind fun (x16_0, x16_1) =>
(some (((x16_0, x16_1), 0), h15))))) else ((H.wrs h11 (.hp h.next 2 0) [.int .i64 0, .int .i64 0]).bind fun h17 =>
((rdT (.agg [.int .i64, .int .i64]) h17 (.hp h.next 2 0 : V)).bind fun (x18_0, x18_1) =>
(some (((x18_0, x18_1), 15), h17)))))))))))))))
def mix_Sum.A : Ann := { lits := [], conds := [], loops := [], regs := [] }
noncomputable def mix_Sum.tc : Table := tab [(72, slices_ContainsFunc_api_Liquid_api_Liquid.e (mix_Sum.tb))] [] (mix_Sum.tb)
theorem mix_Sum.tcok : TabOK Try.prog (mix_Sum.tc) := TabOK.tab (mix_Sum.tbok) (all_cons (slices_ContainsFunc_api_Liquid_api_Liquid.ok _ (mix_Sum.tbok)) (all_nil _)) (all_nil _)
theorem mix_Sum.eq : ∀ (x : TT [.leaf .slice]) (h : H), evalFn Try.prog (mix_Sum.tc) mix_Sum.A Try.f49 (.many [.agg [.int .i64, .int .i64], .leaf (.int .i64)]) (TT.un [.leaf .slice] x) h = mix_Sum x h := by
  intro x h
  kernel_rfl
noncomputable def mix_Sum.e : Entry := mkX [.leaf .slice] (.many [.agg [.int .i64, .int .i64], .leaf (.int .i64)]) fun x h => mix_Sum x h
theorem mix_Sum.ok : EntryOK Try.prog 49 (mix_Sum.e) := mkX_ok (mix_Sum.tcok) Try.mixed Try.func49 (by kernel_rfl) (mix_Sum.eq)
noncomputable def mix_SumP (a0 : (List (Int × Int))) : Option ((Int × Int) × Int) := (mix_Sum (rowSV false [.int .i64, .int .i64] a0) H.empty).bind fun p => rdRes false p.2 (.many [.agg [.int .i64, .int .i64], .leaf (.int .i64)]) (Res.un (.many [.agg [.int .i64, .int .i64], .leaf (.int .i64)]) p.1)
theorem mix_SumP.eq : ∀ x : TT [.leaf (.row [.int .i64, .int .i64])], ((evalFn Try.prog (mix_Sum.tc) mix_Sum.A Try.f49 (.many [.agg [.int .i64, .int .i64], .leaf (.int .i64)]) (TT.lo false [.leaf (.row [.int .i64, .int .i64])] x) H.empty).bind fun p => rdRes false p.2 (.many [.agg [.int .i64, .int .i64], .leaf (.int .i64)]) (Res.un (.many [.agg [.int .i64, .int .i64], .leaf (.int .i64)]) p.1)) = mix_SumP x := by
  intro x
  rw [show TT.lo false [.leaf (.row [.int .i64, .int .i64])] x = TT.un [.leaf .slice] ((rowSV false [.int .i64, .int .i64] x)) from rfl, mix_Sum.eq]
  rfl
noncomputable def mix_SumP.e : Entry := mkP [.leaf (.row [.int .i64, .int .i64])] (.many [.agg [.int .i64, .int .i64], .leaf (.int .i64)]) fun x => mix_SumP x
theorem mix_SumP.ok : EntryOK Try.prog 49 (mix_SumP.e) := mkP_ok (mix_Sum.tcok) Try.mixed Try.func49 (by kernel_rfl) mix_SumP.eq

/-! ### spile/lot.plain: function 52 -/
noncomputable def lot_plain.tb : Table := tab [(49, mix_SumP.e)] [] Table.nil
theorem lot_plain.tbok : TabOK Try.prog (lot_plain.tb) := TabOK.tab (TabOK.nil Try.prog) (all_cons mix_SumP.ok (all_nil _)) (all_nil _)
noncomputable def lot_plain (a0 : (Int × Int)) (h : H) : Option ((Bool) × H) :=
(match a0 with
| (a0_0, a0_1) =>
(let h1 : H := H.new h [.int .i64 a0_0, .int .i64 a0_1] 2
((rdT (.agg [.int .i64, .int .i64]) h1 (.hp h.next 2 0)).bind fun (x2_0, x2_1) =>
((rdRow true h1 [.int .i64, .int .i64] ⟨.lp true ([.int .i64 x2_0, .int .i64 x2_1]) 0, 1, 1, false⟩).bind fun s5 =>
((mix_SumP s5).bind fun ((r3_0, r3_1), r4) =>
(let h6 : H := H.new h1 [.int .i64 0, .int .i64 0] 2
((H.wrs h6 (.hp h1.next 2 0) [.int .i64 r3_0, .int .i64 r3_1]).bind fun h7 =>
(some ((decide (r4 = 0)), h7)))))))))
def lot_plain.A : Ann := { lits := [], conds := [], loops := [], regs := [] }
theorem lot_plain.eq : ∀ (x : TT [.agg [.int .i64, .int .i64]]) (h : H), evalFn Try.prog (lot_plain.tb) lot_plain.A Try.f52 (.one (.leaf .bool)) (TT.un [.agg [.int .i64, .int .i64]] x) h = lot_plain x h := by
  intro x h
  kernel_rfl
noncomputable def lot_plain.e : Entry := mkX [.agg [.int .i64, .int .i64]] (.one (.leaf .bool)) fun x h => lot_plain x h
theorem lot_plain.ok : EntryOK Try.prog 52 (lot_plain.e) := mkX_ok (lot_plain.tbok) Try.mixed Try.func52 (by kernel_rfl) (lot_plain.eq)
noncomputable def lot_plainP (a0 : (Int × Int)) : Option (Bool) := (lot_plain a0 H.empty).bind fun p => rdRes false p.2 (.one (.leaf .bool)) (Res.un (.one (.leaf .bool)) p.1)
theorem lot_plainP.eq : ∀ x : TT [.agg [.int .i64, .int .i64]], ((evalFn Try.prog (lot_plain.tb) lot_plain.A Try.f52 (.one (.leaf .bool)) (TT.lo false [.agg [.int .i64, .int .i64]] x) H.empty).bind fun p => rdRes false p.2 (.one (.leaf .bool)) (Res.un (.one (.leaf .bool)) p.1)) = lot_plainP x := by
  intro x
  rw [show TT.lo false [.agg [.int .i64, .int .i64]] x = TT.un [.agg [.int .i64, .int .i64]] (x) from rfl, lot_plain.eq]
  rfl
noncomputable def lot_plainP.e : Entry := mkP [.agg [.int .i64, .int .i64]] (.one (.leaf .bool)) fun x => lot_plainP x
theorem lot_plainP.ok : EntryOK Try.prog 52 (lot_plainP.e) := mkP_ok (lot_plain.tbok) Try.mixed Try.func52 (by kernel_rfl) lot_plainP.eq

/-! ### spile/lot.shares: function 79 -/
noncomputable def lot_shares.tb : Table := tab [] [] Table.nil
theorem lot_shares.tbok : TabOK Try.prog (lot_shares.tb) := TabOK.tab (TabOK.nil Try.prog) (all_nil _) (all_nil _)
noncomputable def lot_shares.loop1 (h : H) (x3 : SV) : (Int × Int) × H → Option (Stp ((Int × Int) × H) (Flow (Int) (Int) × H)) := fun ((y4, y5), h6) =>
(bif (decide (y5 < ((x3.len : Nat) : Int))) then (guardO (0 ≤ y5 ∧ y5 < ((x3.len : Nat) : Int)) ((rdT (.agg [.int .i64, .int .i64]) h6 (V.add x3.a (Int.toNat y5 * 2))).bind fun (x7_0, x7_1) =>
(let h8 : H := H.new h6 [.int .i64 0, .int .i64 0] 2
((H.wrs h8 (.hp h6.next 2 0) [.int .i64 x7_0, .int .i64 x7_1]).bind fun h9 =>
(((let h10 : H := H.reserve h9 0
((rdT (.leaf (.int .i64)) h10 (.hp h6.next 2 0)).bind fun x11 =>
(bif !(decide (x11 < 1)) then ((rdT (.leaf (.int .i64)) h10 (.hp h6.next 2 0)).bind fun x12 =>
(bif !(decide ((1073741824 : Int) < x12)) then ((rdT (.leaf (.int .i64)) h10 (.hp h6.next 2 1)).bind fun x13 =>
(bif !(decide (x13 < 1)) then ((rdT (.leaf (.int .i64)) h10 (.hp h6.next 2 1)).bind fun x14 =>
(bif !(decide ((10737418240000 : Int) < x14)) then (bif (decide ((0 : Int) < y5)) then ((rdT (.leaf .slice) h10 (.hp h.next 4 3)).bind fun x15 =>
(guardO (0 ≤ (IntKind.wrap .i64 (y5 - 1)) ∧ (IntKind.wrap .i64 (y5 - 1)) < ((x15.len : Nat) : Int)) (guardO (V.nn ((V.add x15.a (Int.toNat (IntKind.wrap .i64 (y5 - 1)) * 2)) : V) = true) ((rdT (.leaf (.int .i64)) h10 (V.add (V.add x15.a (Int.toNat (IntKind.wrap .i64 (y5 - 1)) * 2)) 0)).bind fun x16 =>
((rdT (.leaf (.int .i64)) h10 (.hp h6.next 2 0)).bind fun x17 =>
(some ((decide (x17 ≤ x16)), h10))))))) else (some (false, h10))) else (some (true, h10)))) else (some (true, h10)))) else (some (true, h10)))) else (some (true, h10)))))).bind fun (y18, h19) =>
(bif y18 then (some (.done (.ret 10, h19))) else ((rdT (.leaf (.int .i64)) h19 (.hp h6.next 2 1)).bind fun x20 =>
(some (.more (((IntKind.wrap .i64 (y4 + x20)), (IntKind.wrap .i64 (y5 + 1))), h19)))))))))) else (some (.done (.ex0 y4, h6))))
noncomputable def lot_shares (a0 : (Int × Int × Int × SV)) (h : H) : Option ((Int) × H) :=
(match a0 with
| (a0_0, a0_1, a0_2, a0_3) =>
(let h1 : H := H.new h [.int .i64 a0_0, .int .i64 a0_1, .int .i64 a0_2, .slice a0_3.a a0_3.len a0_3.cap a0_3.tail] 4
((rdT (.leaf .slice) h1 (.hp h.next 4 3)).bind fun x2 =>
(bif (decide ((32 : Int) < ((x2.len : Nat) : Int))) then (some (12, h1)) else ((rdT (.leaf .slice) h1 (.hp h.next 4 3)).bind fun x3 =>
((iter FUEL (lot_shares.loop1 h x3) ((0, 0), h1)).bind fun (fl22, h21) => match fl22 with
| .next _ => none
| .ret rr23 => (some (rr23, h21))
| .ex0 y24 =>
((rdT (.leaf (.int .i64)) h21 (.hp h.next 4 1)).bind fun x25 =>
(bif (!(decide (y24 = x25))) then (some (14, h21)) else (some (0, h21))))
| .ex1 _ => none))))))
def lot_shares.A : Ann := { lits := [], conds := [], loops := [(5, [3, 13], [.leaf (.int .i64), .leaf (.int .i64)], [3], [.leaf (.int .i64)], some 0, none)], regs := [(7, [51], [.leaf .bool])] }
theorem lot_shares.eq : ∀ (x : TT [.agg [.int .i64, .int .i64, .int .i64, .slice]]) (h : H), evalFn Try.prog (lot_shares.tb) lot_shares.A Try.f79 (.one (.leaf (.int .i64))) (TT.un [.agg [.int .i64, .int .i64, .int .i64, .slice]] x) h = lot_shares x h := by
  intro x h
  kernel_rfl
noncomputable def lot_shares.e : Entry := mkX [.agg [.int .i64, .int .i64, .int .i64, .slice]] (.one (.leaf (.int .i64))) fun x h => lot_shares x h
theorem lot_shares.ok : EntryOK Try.prog 79 (lot_shares.e) := mkX_ok (lot_shares.tbok) Try.mixed Try.func79 (by kernel_rfl) (lot_shares.eq)
noncomputable def lot_sharesP (a0 : (Int × Int × Int × (List (Int × Int)))) : Option (Int) := (lot_shares (a0.1, a0.2.1, a0.2.2.1, rowSV false [.int .i64, .int .i64] a0.2.2.2) H.empty).bind fun p => rdRes false p.2 (.one (.leaf (.int .i64))) (Res.un (.one (.leaf (.int .i64))) p.1)
theorem lot_sharesP.eq : ∀ x : TT [.agg [.int .i64, .int .i64, .int .i64, .row [.int .i64, .int .i64]]], ((evalFn Try.prog (lot_shares.tb) lot_shares.A Try.f79 (.one (.leaf (.int .i64))) (TT.lo false [.agg [.int .i64, .int .i64, .int .i64, .row [.int .i64, .int .i64]]] x) H.empty).bind fun p => rdRes false p.2 (.one (.leaf (.int .i64))) (Res.un (.one (.leaf (.int .i64))) p.1)) = lot_sharesP x := by
  intro x
  rw [show TT.lo false [.agg [.int .i64, .int .i64, .int .i64, .row [.int .i64, .int .i64]]] x = TT.un [.agg [.int .i64, .int .i64, .int .i64, .slice]] ((x.1, x.2.1, x.2.2.1, rowSV false [.int .i64, .int .i64] x.2.2.2)) from rfl, lot_shares.eq]
  rfl
noncomputable def lot_sharesP.e : Entry := mkP [.agg [.int .i64, .int .i64, .int .i64, .row [.int .i64, .int .i64]]] (.one (.leaf (.int .i64))) fun x => lot_sharesP x
theorem lot_sharesP.ok : EntryOK Try.prog 79 (lot_sharesP.e) := mkP_ok (lot_shares.tbok) Try.mixed Try.func79 (by kernel_rfl) lot_sharesP.eq

/-! ### spile/lot.fault: function 60 -/
noncomputable def lot_fault.tb : Table := tab [(52, lot_plainP.e), (79, lot_sharesP.e)] [] Table.nil
theorem lot_fault.tbok : TabOK Try.prog (lot_fault.tb) := TabOK.tab (TabOK.nil Try.prog) (all_cons lot_plainP.ok (all_cons lot_sharesP.ok (all_nil _))) (all_nil _)
noncomputable def lot_fault (a0 : SV) (a1 : Int) (h : H) : Option ((Int) × H) :=
(guardO (0 ≤ a1 ∧ a1 < ((a0.len : Nat) : Int)) ((rdT (.agg [.int .i64, .int .i64, .int .i64, .slice]) h (V.add a0.a (Int.toNat a1 * 4))).bind fun (x1_0, x1_1, x1_2, x1_3) =>
(let h2 : H := H.new h [.int .i64 0, .int .i64 0, .int .i64 0, .slice .nil 0 0 false] 4
((H.wrs h2 (.hp h.next 4 0) [.int .i64 x1_0, .int .i64 x1_1, .int .i64 x1_2, .slice x1_3.a x1_3.len x1_3.cap x1_3.tail]).bind fun h3 =>
((((rdT (.leaf (.int .i64)) h3 (.hp h.next 4 0)).bind fun x4 =>
(bif !(decide (x4 < 1)) then ((rdT (.leaf (.int .i64)) h3 (.hp h.next 4 0)).bind fun x5 =>
(some ((decide ((1073741824 : Int) < x5)), h3))) else (some (true, h3))))).bind fun (y6, h7) =>
(bif y6 then (some (2, h7)) else (((let h8 : H := H.reserve h7 0
(bif (decide ((0 : Int) < a1)) then (guardO (0 ≤ (IntKind.wrap .i64 (a1 - 1)) ∧ (IntKind.wrap .i64 (a1 - 1)) < ((a0.len : Nat) : Int)) (guardO (V.nn ((V.add a0.a (Int.toNat (IntKind.wrap .i64 (a1 - 1)) * 4)) : V) = true) ((rdT (.leaf (.int .i64)) h8 (V.add (V.add a0.a (Int.toNat (IntKind.wrap .i64 (a1 - 1)) * 4)) 0)).bind fun x9 =>
((rdT (.leaf (.int .i64)) h8 (.hp h.next 4 0)).bind fun x10 =>
(some ((decide (x10 ≤ x9)), h8)))))) else (some (false, h8))))).bind fun (y11, h12) =>
(bif y11 then (some (5, h12)) else ((((rdT (.agg [.int .i64, .int .i64]) h12 (.hp h.next 4 1)).bind fun (x13_0, x13_1) =>
((lot_plainP (x13_0, x13_1)).bind fun r14 =>
(bif !(!r14) then ((rdT (.leaf (.int .i64)) h12 (.hp h.next 4 2)).bind fun x15 =>
(some ((decide (x15 = 0)), h12))) else (some (true, h12)))))).bind fun (y16, h17) =>
(bif y16 then (some (1, h17)) else ((rdT (.agg [.int .i64, .int .i64, .int .i64, .slice]) h17 (.hp h.next 4 0)).bind fun (x18_0, x18_1, x18_2, x18_3) =>
((rdRow true h17 [.int .i64, .int .i64] x18_3).bind fun s20 =>
((lot_sharesP (x18_0, x18_1, x18_2, s20)).bind fun r19 =>
(some (r19, h17)))))))))))))))
def lot_fault.A : Ann := { lits := [], conds := [], loops := [], regs := [(2, [10], [.leaf .bool]), (4, [19], [.leaf .bool]), (6, [33], [.leaf .bool])] }
theorem lot_fault.eq : ∀ (x : TT [.leaf .slice, .leaf (.int .i64)]) (h : H), evalFn Try.prog (lot_fault.tb) lot_fault.A Try.f60 (.one (.leaf (.int .i64))) (TT.un [.leaf .slice, .leaf (.int .i64)] x) h = lot_fault x.1 x.2 h := by
  intro x h
  kernel_rfl
noncomputable def lot_fault.e : Entry := mkX [.leaf .slice, .leaf (.int .i64)] (.one (.leaf (.int .i64))) fun x h => lot_fault x.1 x.2 h
theorem lot_fault.ok : EntryOK Try.prog 60 (lot_fault.e) := mkX_ok (lot_fault.tbok) Try.mixed Try.func60 (by kernel_rfl) (lot_fault.eq)
noncomputable def lot_faultP (a0 : (List (Int × Int × Int × (List (Int × Int))))) (a1 : Int) : Option (Int) := (lot_fault (rowSV false [.int .i64, .int .i64, .int .i64, .row [.int .i64, .int .i64]] a0) a1 H.empty).bind fun p => rdRes false p.2 (.one (.leaf (.int .i64))) (Res.un (.one (.leaf (.int .i64))) p.1)
theorem lot_faultP.eq : ∀ x : TT [.leaf (.row [.int .i64, .int .i64, .int .i64, .row [.int .i64, .int .i64]]), .leaf (.int .i64)], ((evalFn Try.prog (lot_fault.tb) lot_fault.A Try.f60 (.one (.leaf (.int .i64))) (TT.lo false [.leaf (.row [.int .i64, .int .i64, .int .i64, .row [.int .i64, .int .i64]]), .leaf (.int .i64)] x) H.empty).bind fun p => rdRes false p.2 (.one (.leaf (.int .i64))) (Res.un (.one (.leaf (.int .i64))) p.1)) = lot_faultP x.1 x.2 := by
  intro x
  rw [show TT.lo false [.leaf (.row [.int .i64, .int .i64, .int .i64, .row [.int .i64, .int .i64]]), .leaf (.int .i64)] x = TT.un [.leaf .slice, .leaf (.int .i64)] ((rowSV false [.int .i64, .int .i64, .int .i64, .row [.int .i64, .int .i64]] x.1), x.2) from rfl, lot_fault.eq]
  rfl
noncomputable def lot_faultP.e : Entry := mkP [.leaf (.row [.int .i64, .int .i64, .int .i64, .row [.int .i64, .int .i64]]), .leaf (.int .i64)] (.one (.leaf (.int .i64))) fun x => lot_faultP x.1 x.2
theorem lot_faultP.ok : EntryOK Try.prog 60 (lot_faultP.e) := mkP_ok (lot_fault.tbok) Try.mixed Try.func60 (by kernel_rfl) lot_faultP.eq

/-! ### spile/lot.Check: function 35 -/
noncomputable def lot_Check.tb : Table := tab [(60, lot_faultP.e)] [] Table.nil
theorem lot_Check.tbok : TabOK Try.prog (lot_Check.tb) := TabOK.tab (TabOK.nil Try.prog) (all_cons lot_faultP.ok (all_nil _)) (all_nil _)
noncomputable def lot_Check.loop1 (a0 : SV) : (Int) × H → Option (Stp ((Int) × H) (Flow (Unit) (Int × Int) × H)) := fun (y1, h2) =>
(bif (decide (y1 < ((a0.len : Nat) : Int))) then ((rdRow true h2 [.int .i64, .int .i64, .int .i64, .row [.int .i64, .int .i64]] a0).bind fun s4 =>
((lot_faultP s4 y1).bind fun r3 =>
(bif (!(decide (r3 = 0))) then (some (.done (.ret (y1, r3), h2))) else (some (.more ((IntKind.wrap .i64 (y1 + 1)), h2)))))) else (some (.done (.ex0 (), h2))))
noncomputable def lot_Check (a0 : SV) (h : H) : Option ((Int × Int) × H) :=
(bif (decide ((32 : Int) < ((a0.len : Nat) : Int))) then (some (((-1), 8), h)) else ((iter FUEL (lot_Check.loop1 a0) (0, h)).bind fun (fl6, h5) => match fl6 with
| .next _ => none
| .ret rr7 => (some (rr7, h5))
| .ex0 _ =>
(some (((-1), 0), h5))
| .ex1 _ => none))
def lot_Check.A : Ann := { lits := [], conds := [], loops := [(4, [11], [.leaf (.int .i64)], [], [], some 0, none)], regs := [] }
theorem lot_Check.eq : ∀ (x : TT [.leaf .slice]) (h : H), evalFn Try.prog (lot_Check.tb) lot_Check.A Try.f35 (.many [.leaf (.int .i64), .leaf (.int .i64)]) (TT.un [.leaf .slice] x) h = lot_Check x h := by
  intro x h
  kernel_rfl
noncomputable def lot_Check.e : Entry := mkX [.leaf .slice] (.many [.leaf (.int .i64), .leaf (.int .i64)]) fun x h => lot_Check x h
theorem lot_Check.ok : EntryOK Try.prog 35 (lot_Check.e) := mkX_ok (lot_Check.tbok) Try.mixed Try.func35 (by kernel_rfl) (lot_Check.eq)
noncomputable def lot_CheckP (a0 : (List (Int × Int × Int × (List (Int × Int))))) : Option (Int × Int) := (lot_Check (rowSV false [.int .i64, .int .i64, .int .i64, .row [.int .i64, .int .i64]] a0) H.empty).bind fun p => rdRes false p.2 (.many [.leaf (.int .i64), .leaf (.int .i64)]) (Res.un (.many [.leaf (.int .i64), .leaf (.int .i64)]) p.1)
theorem lot_CheckP.eq : ∀ x : TT [.leaf (.row [.int .i64, .int .i64, .int .i64, .row [.int .i64, .int .i64]])], ((evalFn Try.prog (lot_Check.tb) lot_Check.A Try.f35 (.many [.leaf (.int .i64), .leaf (.int .i64)]) (TT.lo false [.leaf (.row [.int .i64, .int .i64, .int .i64, .row [.int .i64, .int .i64]])] x) H.empty).bind fun p => rdRes false p.2 (.many [.leaf (.int .i64), .leaf (.int .i64)]) (Res.un (.many [.leaf (.int .i64), .leaf (.int .i64)]) p.1)) = lot_CheckP x := by
  intro x
  rw [show TT.lo false [.leaf (.row [.int .i64, .int .i64, .int .i64, .row [.int .i64, .int .i64]])] x = TT.un [.leaf .slice] ((rowSV false [.int .i64, .int .i64, .int .i64, .row [.int .i64, .int .i64]] x)) from rfl, lot_Check.eq]
  rfl
noncomputable def lot_CheckP.e : Entry := mkP [.leaf (.row [.int .i64, .int .i64, .int .i64, .row [.int .i64, .int .i64]])] (.many [.leaf (.int .i64), .leaf (.int .i64)]) fun x => lot_CheckP x
theorem lot_CheckP.ok : EntryOK Try.prog 35 (lot_CheckP.e) := mkP_ok (lot_Check.tbok) Try.mixed Try.func35 (by kernel_rfl) lot_CheckP.eq

/-! ### spile/share.id: function 48 -/
noncomputable def share_id.tb : Table := tab [] [] Table.nil
theorem share_id.tbok : TabOK Try.prog (share_id.tb) := TabOK.tab (TabOK.nil Try.prog) (all_nil _) (all_nil _)
noncomputable def share_id (a0 : Int) (h : H) : Option ((Bool) × H) :=
(((bif (decide ((1 : Int) ≤ a0)) then (some ((decide (a0 ≤ 1073741824)), h)) else (some (false, h)))).bind fun (y1, h2) =>
(some (y1, h2)))
def share_id.A : Ann := { lits := [], conds := [], loops := [], regs := [(1, [2], [.leaf .bool])] }
theorem share_id.eq : ∀ (x : TT [.leaf (.int .i64)]) (h : H), evalFn Try.prog (share_id.tb) share_id.A Try.f48 (.one (.leaf .bool)) (TT.un [.leaf (.int .i64)] x) h = share_id x h := by
  intro x h
  kernel_rfl
noncomputable def share_id.e : Entry := mkX [.leaf (.int .i64)] (.one (.leaf .bool)) fun x h => share_id x h
theorem share_id.ok : EntryOK Try.prog 48 (share_id.e) := mkX_ok (share_id.tbok) Try.mixed Try.func48 (by kernel_rfl) (share_id.eq)
noncomputable def share_idP (a0 : Int) : Option (Bool) := (share_id a0 H.empty).bind fun p => rdRes false p.2 (.one (.leaf .bool)) (Res.un (.one (.leaf .bool)) p.1)
theorem share_idP.eq : ∀ x : TT [.leaf (.int .i64)], ((evalFn Try.prog (share_id.tb) share_id.A Try.f48 (.one (.leaf .bool)) (TT.lo false [.leaf (.int .i64)] x) H.empty).bind fun p => rdRes false p.2 (.one (.leaf .bool)) (Res.un (.one (.leaf .bool)) p.1)) = share_idP x := by
  intro x
  rw [show TT.lo false [.leaf (.int .i64)] x = TT.un [.leaf (.int .i64)] (x) from rfl, share_id.eq]
  rfl
noncomputable def share_idP.e : Entry := mkP [.leaf (.int .i64)] (.one (.leaf .bool)) fun x => share_idP x
theorem share_idP.ok : EntryOK Try.prog 48 (share_idP.e) := mkP_ok (share_id.tbok) Try.mixed Try.func48 (by kernel_rfl) share_idP.eq

/-! ### spile/share.Vat: function 25 -/
noncomputable def share_Vat.tb : Table := tab [(35, lot_CheckP.e), (45, share_unionP.e), (48, share_idP.e), (49, mix_SumP.e)] [] Table.nil
theorem share_Vat.tbok : TabOK Try.prog (share_Vat.tb) := TabOK.tab (TabOK.nil Try.prog) (all_cons lot_CheckP.ok (all_cons share_unionP.ok (all_cons share_idP.ok (all_cons mix_SumP.ok (all_nil _))))) (all_nil _)
noncomputable def share_Vat.loop1 (a0 : SV) (h1 : H) : (Int) × H → Option (Stp ((Int) × H) (Flow (Unit) ((Int × Int × Int × SV) × Int) × H)) := fun (y12, h13) =>
(bif (decide (y12 < ((a0.len : Nat) : Int))) then (guardO (0 ≤ y12 ∧ y12 < ((a0.len : Nat) : Int)) ((rdT (.agg [.int .i64, .int .i64, .int .i64, .slice]) h13 (V.add a0.a (Int.toNat y12 * 4))).bind fun (x14_0, x14_1, x14_2, x14_3) =>
(let h15 : H := H.new h13 [.int .i64 0, .int .i64 0, .int .i64 0, .slice .nil 0 0 false] 4
((H.wrs h15 (.hp h13.next 4 0) [.int .i64 x14_0, .int .i64 x14_1, .int .i64 x14_2, .slice x14_3.a x14_3.len x14_3.cap x14_3.tail]).bind fun h16 =>
((rdT (.leaf .slice) h16 (.hp h1.next 4 3)).bind fun x17 =>
((rdT (.leaf .slice) h16 (.hp h13.next 4 3)).bind fun x18 =>
((rdRow true h16 [.int .i64, .int .i64] x17).bind fun s20 =>
((rdRow true h16 [.int .i64, .int .i64] x18).bind fun s21 =>
((share_unionP s20 s21).bind fun r19 =>
((H.wrs h16 (.hp h1.next 4 3) [.slice ((rowSV true [.int .i64, .int .i64] r19).a) r19.length r19.length true]).bind fun h22 =>
(let h23 : H := H.reserve h22 0
((rdT (.leaf (.int .i64)) h23 (.hp h1.next 4 1)).bind fun x24 =>
((rdT (.leaf (.int .i64)) h23 (.hp h13.next 4 1)).bind fun x25 =>
((rdT (.leaf (.int .i64)) h23 (.hp h1.next 4 2)).bind fun x26 =>
((rdT (.leaf (.int .i64)) h23 (.hp h13.next 4 2)).bind fun x27 =>
((H.wrs h23 (.hp h1.next 4 1) [.int .i64 (IntKind.wrap .i64 (x24 + x25))]).bind fun h28 =>
((H.wrs h28 (.hp h1.next 4 2) [.int .i64 (IntKind.wrap .i64 (x26 + x27))]).bind fun h29 =>
(guardO (apartA (.hp h13.next 4 2 : V) (.hp h1.next 4 1 : V) = true) (some (.more ((IntKind.wrap .i64 (y12 + 1)), h29))))))))))))))))))))) else (some (.done (.ex0 (), h13))))
noncomputable def share_Vat (a0 : SV) (a1 : Int) (h : H) : Option (((Int × Int × Int × SV) × Int) × H) :=
(let h1 : H := H.new h [.int .i64 0, .int .i64 0, .int .i64 0, .slice .nil 0 0 false] 4
((rdRow true h1 [.int .i64, .int .i64, .int .i64, .row [.int .i64, .int .i64]] a0).bind fun s4 =>
((lot_CheckP s4).bind fun (r2, r3) =>
(bif (!(decide (r3 = 0))) then ((H.wrs h1 (.hp h.next 4 0) [.int .i64 0, .int .i64 0, .int .i64 0, .slice .nil 0 0 false]).bind fun h5 =>
((rdT (.agg [.int .i64, .int .i64, .int .i64, .slice]) h5 (.hp h.next 4 0 : V)).bind fun (x6_0, x6_1, x6_2, x6_3) =>
(some (((x6_0, x6_1, x6_2, x6_3), 1), h5)))) else ((share_idP a1).bind fun r7 =>
(bif (!r7) then ((H.wrs h1 (.hp h.next 4 0) [.int .i64 0, .int .i64 0, .int .i64 0, .slice .nil 0 0 false]).bind fun h8 =>
((rdT (.agg [.int .i64, .int .i64, .int .i64, .slice]) h8 (.hp h.next 4 0 : V)).bind fun (x9_0, x9_1, x9_2, x9_3) =>
(some (((x9_0, x9_1, x9_2, x9_3), 2), h8)))) else (let h10 : H := H.new h1 [.int .i64 0, .int .i64 0, .int .i64 0, .slice .nil 0 0 false] 4
((H.wrs h10 (.hp h1.next 4 0) [.int .i64 a1, .int .i64 0, .int .i64 0, .slice .nil 0 0 false]).bind fun h11 =>
((iter FUEL (share_Vat.loop1 a0 h1) (0, h11)).bind fun (fl31, h30) => match fl31 with
| .next _ => none
| .ret rr32 => (some (rr32, h30))
| .ex0 _ =>
((rdT (.agg [.int .i64, .int .i64]) h30 (.hp h1.next 4 1)).bind fun (x33_0, x33_1) =>
((rdRow true h30 [.int .i64, .int .i64] ⟨.lp true ([.int .i64 x33_0, .int .i64 x33_1]) 0, 1, 1, false⟩).bind fun s36 =>
((mix_SumP s36).bind fun ((r34_0, r34_1), r35) =>
(let h37 : H := H.new h30 [.int .i64 0, .int .i64 0] 2
((H.wrs h37 (.hp h30.next 2 0) [.int .i64 r34_0, .int .i64 r34_1]).bind fun h38 =>
((rdT (.leaf .slice) h38 (.hp h1.next 4 3)).bind fun x39 =>
(bif (decide ((32 : Int) < ((x39.len : Nat) : Int))) then ((H.wrs h38 (.hp h.next 4 0) [.int .i64 0, .int .i64 0, .int .i64 0, .slice .nil 0 0 false]).bind fun h40 =>
((rdT (.agg [.int .i64, .int .i64, .int .i64, .slice]) h40 (.hp h.next 4 0 : V)).bind fun (x41_0, x41_1, x41_2, x41_3) =>
(some (((x41_0, x41_1, x41_2, x41_3), 12), h40)))) else (bif (!(decide (r35 = 0))) then ((H.wrs h38 (.hp h.next 4 0) [.int .i64 0, .int .i64 0, .int .i64 0, .slice .nil 0 0 false]).bind fun h42 =>
((rdT (.agg [.int .i64, .int .i64, .int .i64, .slice]) h42 (.hp h.next 4 0 : V)).bind fun (x43_0, x43_1, x43_2, x43_3) =>
(some (((x43_0, x43_1, x43_2, x43_3), 15), h42)))) else ((rdT (.agg [.int .i64, .int .i64, .int .i64, .slice]) h38 (.hp h1.next 4 0)).bind fun (x44_0, x44_1, x44_2, x44_3) =>
((H.wrs h38 (.hp h.next 4 0) [.int .i64 x44_0, .int .i64 x44_1, .int .i64 x44_2, .slice x44_3.a x44_3.len x44_3.cap x44_3.tail]).bind fun h45 =>
((rdT (.agg [.int .i64, .int .i64, .int .i64, .slice]) h45 (.hp h.next 4 0 : V)).bind fun (x46_0, x46_1, x46_2, x46_3) =>
(some (((x46_0, x46_1, x46_2, x46_3), 0), h45)))))))))))))
| .ex1 _ => none)))))))))
def share_Vat.A : Ann := { lits := [], conds := [], loops := [(8, [31], [.leaf (.int .i64)], [], [], some 1, none)], regs := [] }
theorem share_Vat.eq : ∀ (x : TT [.leaf .slice, .leaf (.int .i64)]) (h : H), evalFn Try.prog (share_Vat.tb) share_Vat.A Try.f25 (.many [.agg [.int .i64, .int .i64, .int .i64, .slice], .leaf (.int .i64)]) (TT.un [.leaf .slice, .leaf (.int .i64)] x) h = share_Vat x.1 x.2 h := by
  intro x h
  kernel_rfl
noncomputable def share_Vat.e : Entry := mkX [.leaf .slice, .leaf (.int .i64)] (.many [.agg [.int .i64, .int .i64, .int .i64, .slice], .leaf (.int .i64)]) fun x h => share_Vat x.1 x.2 h
theorem share_Vat.ok : EntryOK Try.prog 25 (share_Vat.e) := mkX_ok (share_Vat.tbok) Try.mixed Try.func25 (by kernel_rfl) (share_Vat.eq)
noncomputable def share_VatP (a0 : (List (Int × Int × Int × (List (Int × Int))))) (a1 : Int) : Option ((Int × Int × Int × (List (Int × Int))) × Int) := (share_Vat (rowSV false [.int .i64, .int .i64, .int .i64, .row [.int .i64, .int .i64]] a0) a1 H.empty).bind fun p => rdRes false p.2 (.many [.agg [.int .i64, .int .i64, .int .i64, .row [.int .i64, .int .i64]], .leaf (.int .i64)]) (Res.un (.many [.agg [.int .i64, .int .i64, .int .i64, .slice], .leaf (.int .i64)]) p.1)
theorem share_VatP.eq : ∀ x : TT [.leaf (.row [.int .i64, .int .i64, .int .i64, .row [.int .i64, .int .i64]]), .leaf (.int .i64)], ((evalFn Try.prog (share_Vat.tb) share_Vat.A Try.f25 (.many [.agg [.int .i64, .int .i64, .int .i64, .slice], .leaf (.int .i64)]) (TT.lo false [.leaf (.row [.int .i64, .int .i64, .int .i64, .row [.int .i64, .int .i64]]), .leaf (.int .i64)] x) H.empty).bind fun p => rdRes false p.2 (.many [.agg [.int .i64, .int .i64, .int .i64, .row [.int .i64, .int .i64]], .leaf (.int .i64)]) (Res.un (.many [.agg [.int .i64, .int .i64, .int .i64, .slice], .leaf (.int .i64)]) p.1)) = share_VatP x.1 x.2 := by
  intro x
  rw [show TT.lo false [.leaf (.row [.int .i64, .int .i64, .int .i64, .row [.int .i64, .int .i64]]), .leaf (.int .i64)] x = TT.un [.leaf .slice, .leaf (.int .i64)] ((rowSV false [.int .i64, .int .i64, .int .i64, .row [.int .i64, .int .i64]] x.1), x.2) from rfl, share_Vat.eq]
  rfl
noncomputable def share_VatP.e : Entry := mkP [.leaf (.row [.int .i64, .int .i64, .int .i64, .row [.int .i64, .int .i64]]), .leaf (.int .i64)] (.many [.agg [.int .i64, .int .i64, .int .i64, .row [.int .i64, .int .i64]], .leaf (.int .i64)]) fun x => share_VatP x.1 x.2
theorem share_VatP.ok : EntryOK Try.prog 25 (share_VatP.e) := mkP_ok (share_Vat.tbok) Try.mixed Try.func25 (by kernel_rfl) share_VatP.eq

/-! ### spile/spileref22.Copy: function 50 -/
noncomputable def spileref22_Copy.tb : Table := tab [] [] Table.nil
theorem spileref22_Copy.tbok : TabOK Try.prog (spileref22_Copy.tb) := TabOK.tab (TabOK.nil Try.prog) (all_nil _) (all_nil _)
noncomputable def spileref22_Copy (a0 : (Int × Int × Int × SV)) (h : H) : Option (((Int × Int × Int × SV)) × H) :=
(match a0 with
| (a0_0, a0_1, a0_2, a0_3) =>
(let h1 : H := H.new h [.int .i64 a0_0, .int .i64 a0_1, .int .i64 a0_2, .slice a0_3.a a0_3.len a0_3.cap a0_3.tail] 4
(let h2 : H := H.new h1 [.int .i64 0, .int .i64 0, .int .i64 0, .slice .nil 0 0 false] 4
((rdT (.leaf .slice) h2 (.hp h.next 4 3)).bind fun x3 =>
((cellsOf h2 (.slice x3.a x3.len x3.cap x3.tail : V) 2).bind fun (n6, cs6) =>
((appendS h2 none 2 16 (⟨.lp true ([]) 0, 0, 0, false⟩) cs6 n6).bind fun (s6, h5) =>
((H.wrs h5 (.hp h.next 4 3) [.slice s6.a s6.len s6.cap s6.tail]).bind fun h9 =>
((rdT (.agg [.int .i64, .int .i64, .int .i64, .slice]) h9 (.hp h.next 4 0)).bind fun (x10_0, x10_1, x10_2, x10_3) =>
((H.wrs h9 (.hp h1.next 4 0) [.int .i64 x10_0, .int .i64 x10_1, .int .i64 x10_2, .slice x10_3.a x10_3.len x10_3.cap x10_3.tail]).bind fun h11 =>
((rdT (.agg [.int .i64, .int .i64, .int .i64, .slice]) h11 (.hp h1.next 4 0 : V)).bind fun (x12_0, x12_1, x12_2, x12_3) =>
(some ((x12_0, x12_1, x12_2, x12_3), h11))))))))))))
def spileref22_Copy.A : Ann := { lits := [], conds := [], loops := [], regs := [] }
theorem spileref22_Copy.eq : ∀ (x : TT [.agg [.int .i64, .int .i64, .int .i64, .slice]]) (h : H), evalFn Try.prog (spileref22_Copy.tb) spileref22_Copy.A Try.f50 (.one (.agg [.int .i64, .int .i64, .int .i64, .slice])) (TT.un [.agg [.int .i64, .int .i64, .int .i64, .slice]] x) h = spileref22_Copy x h := by
  intro x h
  kernel_rfl
noncomputable def spileref22_Copy.e : Entry := mkX [.agg [.int .i64, .int .i64, .int .i64, .slice]] (.one (.agg [.int .i64, .int .i64, .int .i64, .slice])) fun x h => spileref22_Copy x h
theorem spileref22_Copy.ok : EntryOK Try.prog 50 (spileref22_Copy.e) := mkX_ok (spileref22_Copy.tbok) Try.mixed Try.func50 (by kernel_rfl) (spileref22_Copy.eq)
noncomputable def spileref22_CopyP (a0 : (Int × Int × Int × (List (Int × Int)))) : Option ((Int × Int × Int × (List (Int × Int)))) := (spileref22_Copy (a0.1, a0.2.1, a0.2.2.1, rowSV false [.int .i64, .int .i64] a0.2.2.2) H.empty).bind fun p => rdRes false p.2 (.one (.agg [.int .i64, .int .i64, .int .i64, .row [.int .i64, .int .i64]])) (Res.un (.one (.agg [.int .i64, .int .i64, .int .i64, .slice])) p.1)
theorem spileref22_CopyP.eq : ∀ x : TT [.agg [.int .i64, .int .i64, .int .i64, .row [.int .i64, .int .i64]]], ((evalFn Try.prog (spileref22_Copy.tb) spileref22_Copy.A Try.f50 (.one (.agg [.int .i64, .int .i64, .int .i64, .slice])) (TT.lo false [.agg [.int .i64, .int .i64, .int .i64, .row [.int .i64, .int .i64]]] x) H.empty).bind fun p => rdRes false p.2 (.one (.agg [.int .i64, .int .i64, .int .i64, .row [.int .i64, .int .i64]])) (Res.un (.one (.agg [.int .i64, .int .i64, .int .i64, .slice])) p.1)) = spileref22_CopyP x := by
  intro x
  rw [show TT.lo false [.agg [.int .i64, .int .i64, .int .i64, .row [.int .i64, .int .i64]]] x = TT.un [.agg [.int .i64, .int .i64, .int .i64, .slice]] ((x.1, x.2.1, x.2.2.1, rowSV false [.int .i64, .int .i64] x.2.2.2)) from rfl, spileref22_Copy.eq]
  rfl
noncomputable def spileref22_CopyP.e : Entry := mkP [.agg [.int .i64, .int .i64, .int .i64, .row [.int .i64, .int .i64]]] (.one (.agg [.int .i64, .int .i64, .int .i64, .row [.int .i64, .int .i64]])) fun x => spileref22_CopyP x
theorem spileref22_CopyP.ok : EntryOK Try.prog 50 (spileref22_CopyP.e) := mkP_ok (spileref22_Copy.tbok) Try.mixed Try.func50 (by kernel_rfl) spileref22_CopyP.eq

/-! ### spile/spileref22.CopyAll: function 26 -/
noncomputable def spileref22_CopyAll.tb : Table := tab [(50, spileref22_CopyP.e)] [] Table.nil
theorem spileref22_CopyAll.tbok : TabOK Try.prog (spileref22_CopyAll.tb) := TabOK.tab (TabOK.nil Try.prog) (all_cons spileref22_CopyP.ok (all_nil _)) (all_nil _)
noncomputable def spileref22_CopyAll.loop1 (a0 : SV) : (SV × Int) × H → Option (Stp ((SV × Int) × H) (Flow (SV) (SV) × H)) := fun ((y1, y2), h3) =>
(bif (decide (y2 < ((a0.len : Nat) : Int))) then (guardO (0 ≤ y2 ∧ y2 < ((a0.len : Nat) : Int)) ((rdT (.agg [.int .i64, .int .i64, .int .i64, .slice]) h3 (V.add a0.a (Int.toNat y2 * 4))).bind fun (x4_0, x4_1, x4_2, x4_3) =>
((rdRow true h3 [.int .i64, .int .i64] x4_3).bind fun s6 =>
((spileref22_CopyP (x4_0, x4_1, x4_2, s6)).bind fun (r5_0, r5_1, r5_2, r5_3) =>
((appendS h3 none 4 48 y1 [.int .i64 r5_0, .int .i64 r5_1, .int .i64 r5_2, .slice ((rowSV true [.int .i64, .int .i64] r5_3).a) r5_3.length r5_3.length true] 1).bind fun (s9, h8) =>
(some (.more ((s9, (IntKind.wrap .i64 (y2 + 1))), h8)))))))) else (some (.done (.ex0 y1, h3))))
noncomputable def spileref22_CopyAll (a0 : SV) (h : H) : Option ((SV) × H) :=
((iter FUEL (spileref22_CopyAll.loop1 a0) ((⟨.lp true ([]) 0, 0, 0, false⟩, 0), h)).bind fun (fl12, h11) => match fl12 with
| .next _ => none
| .ret rr13 => (some (rr13, h11))
| .ex0 y14 =>
(some (y14, h11))
| .ex1 _ => none)
def spileref22_CopyAll.A : Ann := { lits := [], conds := [], loops := [(3, [3, 4], [.leaf .slice, .leaf (.int .i64)], [3], [.leaf .slice], some 0, none)], regs := [] }
theorem spileref22_CopyAll.eq : ∀ (x : TT [.leaf .slice]) (h : H), evalFn Try.prog (spileref22_CopyAll.tb) spileref22_CopyAll.A Try.f26 (.one (.leaf .slice)) (TT.un [.leaf .slice] x) h = spileref22_CopyAll x h := by
  intro x h
  kernel_rfl
noncomputable def spileref22_CopyAll.e : Entry := mkX [.leaf .slice] (.one (.leaf .slice)) fun x h => spileref22_CopyAll x h
theorem spileref22_CopyAll.ok : EntryOK Try.prog 26 (spileref22_CopyAll.e) := mkX_ok (spileref22_CopyAll.tbok) Try.mixed Try.func26 (by kernel_rfl) (spileref22_CopyAll.eq)
noncomputable def spileref22_CopyAllP (a0 : (List (Int × Int × Int × (List (Int × Int))))) : Option ((List (Int × Int × Int × (List (Int × Int))))) := (spileref22_CopyAll (rowSV false [.int .i64, .int .i64, .int .i64, .row [.int .i64, .int .i64]] a0) H.empty).bind fun p => rdRes false p.2 (.one (.leaf (.row [.int .i64, .int .i64, .int .i64, .row [.int .i64, .int .i64]]))) (Res.un (.one (.leaf .slice)) p.1)
theorem spileref22_CopyAllP.eq : ∀ x : TT [.leaf (.row [.int .i64, .int .i64, .int .i64, .row [.int .i64, .int .i64]])], ((evalFn Try.prog (spileref22_CopyAll.tb) spileref22_CopyAll.A Try.f26 (.one (.leaf .slice)) (TT.lo false [.leaf (.row [.int .i64, .int .i64, .int .i64, .row [.int .i64, .int .i64]])] x) H.empty).bind fun p => rdRes false p.2 (.one (.leaf (.row [.int .i64, .int .i64, .int .i64, .row [.int .i64, .int .i64]]))) (Res.un (.one (.leaf .slice)) p.1)) = spileref22_CopyAllP x := by
  intro x
  rw [show TT.lo false [.leaf (.row [.int .i64, .int .i64, .int .i64, .row [.int .i64, .int .i64]])] x = TT.un [.leaf .slice] ((rowSV false [.int .i64, .int .i64, .int .i64, .row [.int .i64, .int .i64]] x)) from rfl, spileref22_CopyAll.eq]
  rfl
noncomputable def spileref22_CopyAllP.e : Entry := mkP [.leaf (.row [.int .i64, .int .i64, .int .i64, .row [.int .i64, .int .i64]])] (.one (.leaf (.row [.int .i64, .int .i64, .int .i64, .row [.int .i64, .int .i64]]))) fun x => spileref22_CopyAllP x
theorem spileref22_CopyAllP.ok : EntryOK Try.prog 26 (spileref22_CopyAllP.e) := mkP_ok (spileref22_CopyAll.tbok) Try.mixed Try.func26 (by kernel_rfl) spileref22_CopyAllP.eq
end Go.Proofs.Ytbcpdecgfdlaaaa
