/- The functions of the program as Lean functions, each with the equation by which the evaluator is that function. Written by a program of this session (evdrive.py). Conditions: none. -/
import Derived.Test.YtaepkinihaipkaaProg
import Derived.Test.YtaepkinihaipkaaEvSpec
import Derived.Test.YtaepkinihaipkaaFn2
namespace Go.Proofs.Ytaepkinihaipkaa
open Go Go.Proofs.Ytaepkinihaipkaa.Ev
set_option maxRecDepth 100000
set_option linter.unusedVariables false
/-! ### spile/mix.Sum: function 11 -/
noncomputable def mix_Sum.tb : Table := tab [(28, mix_plainP.e), (29, mix_totalP.e)] [(27, mix_Sum_1P.e)] Table.nil
theorem mix_Sum.tbok : TabOK Try.prog (mix_Sum.tb) := TabOK.tab (TabOK.nil Try.prog) (all_cons mix_plainP.ok (all_cons mix_totalP.ok (all_nil _))) (all_cons mix_Sum_1P.ok (all_nil _))
noncomputable def mix_Sum (a0 : SV) (h : H) : Option (((Int × Int) × Int) × H) :=
(let h1 : H := H.new h [.int .i64 0, .int .i64 0] 2
(bif (decide ((8 : Int) < ((a0.len : Nat) : Int))) then ((H.wrs h1 (.hp h.next 2 0) [.int .i64 0, .int .i64 0]).bind fun h2 =>
((rdT (.agg [.int .i64, .int .i64]) h2 (.hp h.next 2 0 : V)).bind fun (x3_0, x3_1) =>
(some (((x3_0, x3_1), 8), h2)))) else ((slices_ContainsFunc_api_Liquid_api_Liquid mix_Sum.tb a0 (.func 27 [] : V) h1).bind fun (r4, h5) =>
(bif r4 then ((H.wrs h5 (.hp h.next 2 0) [.int .i64 0, .int .i64 0]).bind fun h6 =>
((rdT (.agg [.int .i64, .int .i64]) h6 (.hp h.next 2 0 : V)).bind fun (x7_0, x7_1) =>
(some (((x7_0, x7_1), 1), h6)))) else ((rdRow true h5 [.int .i64, .int .i64] a0).bind fun s9 =>
((mix_totalP s9).bind fun (r8_0, r8_1) =>
(let h10 : H := H.new h5 [.int .i64 0, .int .i64 0] 2
((H.wrs h10 (.hp h5.next 2 0) [.int .i64 r8_0, .int .i64 r8_1]).bind fun h11 =>
((rdT (.agg [.int .i64, .int .i64]) h11 (.hp h5.next 2 0)).bind fun (x12_0, x12_1) =>
((mix_plainP (x12_0, x12_1)).bind fun r13 =>
(bif r13 then ((rdT (.agg [.int .i64, .int .i64]) h11 (.hp h5.next 2 0)).bind fun (x14_0, x14_1) =>
((H.wrs h11 (.hp h.next 2 0) [.int .i64 x14_0, .int .i64 x14_1]).bind fun h15 =>
((rdT (.agg [.int .i64, .int .i64]) h15 (.hp h.next 2 0 : V)).bind fun (x16_0, x16_1) =>
(some (((x16_0, x16_1), 0), h15))))) else ((H.wrs h11 (.hp h.next 2 0) [.int .i64 0, .int .i64 0]).bind fun h17 =>
((rdT (.agg [.int .i64, .int .i64]) h17 (.hp h.next 2 0 : V)).bind fun (x18_0, x18_1) =>
(some (((x18_0, x18_1), 15), h17)))))))))))))))
def mix_Sum.A : Ann := { lits := [], conds := [], loops := [], regs := [] }
noncomputable def mix_Sum.tc : Table := tab [(26, slices_ContainsFunc_api_Liquid_api_Liquid.e (mix_Sum.tb))] [] (mix_Sum.tb)
theorem mix_Sum.tcok : TabOK Try.prog (mix_Sum.tc) := TabOK.tab (mix_Sum.tbok) (all_cons (slices_ContainsFunc_api_Liquid_api_Liquid.ok _ (mix_Sum.tbok)) (all_nil _)) (all_nil _)
theorem mix_Sum.eq : ∀ (x : TT [.leaf .slice]) (h : H), evalFn Try.prog (mix_Sum.tc) mix_Sum.A Try.f11 (.many [.agg [.int .i64, .int .i64], .leaf (.int .i64)]) (TT.un [.leaf .slice] x) h = mix_Sum x h := by
  intro x h
  kernel_rfl
noncomputable def mix_Sum.e : Entry := mkX [.leaf .slice] (.many [.agg [.int .i64, .int .i64], .leaf (.int .i64)]) fun x h => mix_Sum x h
theorem mix_Sum.ok : EntryOK Try.prog 11 (mix_Sum.e) := mkX_ok (mix_Sum.tcok) Try.mixed Try.func11 (by kernel_rfl) (mix_Sum.eq)
noncomputable def mix_SumP (a0 : (List (Int × Int))) : Option ((Int × Int) × Int) := (mix_Sum (rowSV false [.int .i64, .int .i64] a0) H.empty).bind fun p => rdRes false p.2 (.many [.agg [.int .i64, .int .i64], .leaf (.int .i64)]) (Res.un (.many [.agg [.int .i64, .int .i64], .leaf (.int .i64)]) p.1)
theorem mix_SumP.eq : ∀ x : TT [.leaf (.row [.int .i64, .int .i64])], ((evalFn Try.prog (mix_Sum.tc) mix_Sum.A Try.f11 (.many [.agg [.int .i64, .int .i64], .leaf (.int .i64)]) (TT.lo false [.leaf (.row [.int .i64, .int .i64])] x) H.empty).bind fun p => rdRes false p.2 (.many [.agg [.int .i64, .int .i64], .leaf (.int .i64)]) (Res.un (.many [.agg [.int .i64, .int .i64], .leaf (.int .i64)]) p.1)) = mix_SumP x := by
  intro x
  rw [show TT.lo false [.leaf (.row [.int .i64, .int .i64])] x = TT.un [.leaf .slice] ((rowSV false [.int .i64, .int .i64] x)) from rfl, mix_Sum.eq]
  rfl
noncomputable def mix_SumP.e : Entry := mkP [.leaf (.row [.int .i64, .int .i64])] (.many [.agg [.int .i64, .int .i64], .leaf (.int .i64)]) fun x => mix_SumP x
theorem mix_SumP.ok : EntryOK Try.prog 11 (mix_SumP.e) := mkP_ok (mix_Sum.tcok) Try.mixed Try.func11 (by kernel_rfl) mix_SumP.eq

/-! ### spile/density.fault: function 70 -/
noncomputable def density_fault.tb : Table := tab [] [] Table.nil
theorem density_fault.tbok : TabOK Try.prog (density_fault.tb) := TabOK.tab (TabOK.nil Try.prog) (all_nil _) (all_nil _)
noncomputable def density_fault (a0 : SV) (a1 : Int) (h : H) : Option ((Int) × H) :=
(guardO (0 ≤ a1 ∧ a1 < ((a0.len : Nat) : Int)) ((rdT (.agg [.int .i64, .int .i64]) h (V.add a0.a (Int.toNat a1 * 2))).bind fun (x1_0, x1_1) =>
(let h2 : H := H.new h [.int .i64 0, .int .i64 0] 2
((H.wrs h2 (.hp h.next 2 0) [.int .i64 x1_0, .int .i64 x1_1]).bind fun h3 =>
((((rdT (.leaf (.int .i64)) h3 (.hp h.next 2 0)).bind fun x4 =>
(bif !(decide (x4 < 0)) then ((rdT (.leaf (.int .i64)) h3 (.hp h.next 2 0)).bind fun x5 =>
(bif !(decide ((10000 : Int) < x5)) then ((rdT (.leaf (.int .i64)) h3 (.hp h.next 2 1)).bind fun x6 =>
(bif !(decide (x6 < 50000)) then ((rdT (.leaf (.int .i64)) h3 (.hp h.next 2 1)).bind fun x7 =>
(some ((decide ((120000 : Int) < x7)), h3))) else (some (true, h3)))) else (some (true, h3)))) else (some (true, h3))))).bind fun (y8, h9) =>
(bif y8 then (some (2, h9)) else (((let h10 : H := H.reserve h9 0
(bif (decide ((0 : Int) < a1)) then ((rdT (.leaf (.int .i64)) h10 (.hp h.next 2 0)).bind fun x11 =>
(guardO (0 ≤ (IntKind.wrap .i64 (a1 - 1)) ∧ (IntKind.wrap .i64 (a1 - 1)) < ((a0.len : Nat) : Int)) (guardO (V.nn ((V.add a0.a (Int.toNat (IntKind.wrap .i64 (a1 - 1)) * 2)) : V) = true) ((rdT (.leaf (.int .i64)) h10 (V.add (V.add a0.a (Int.toNat (IntKind.wrap .i64 (a1 - 1)) * 2)) 0)).bind fun x12 =>
(some ((decide (x11 ≤ x12)), h10)))))) else (some (false, h10))))).bind fun (y13, h14) =>
(bif y13 then (some (5, h14)) else (((let h15 : H := H.reserve h14 0
(bif (decide ((0 : Int) < a1)) then ((rdT (.leaf (.int .i64)) h15 (.hp h.next 2 1)).bind fun x16 =>
(guardO (0 ≤ (IntKind.wrap .i64 (a1 - 1)) ∧ (IntKind.wrap .i64 (a1 - 1)) < ((a0.len : Nat) : Int)) (guardO (V.nn ((V.add a0.a (Int.toNat (IntKind.wrap .i64 (a1 - 1)) * 2)) : V) = true) ((rdT (.leaf (.int .i64)) h15 (V.add (V.add a0.a (Int.toNat (IntKind.wrap .i64 (a1 - 1)) * 2)) 1)).bind fun x17 =>
(some ((decide (x17 < x16)), h15)))))) else (some (false, h15))))).bind fun (y18, h19) =>
(bif y18 then (some (18, h19)) else (some (0, h19))))))))))))
def density_fault.A : Ann := { lits := [], conds := [], loops := [], regs := [(2, [10], [.leaf .bool]), (4, [29], [.leaf .bool]), (6, [43], [.leaf .bool])] }
theorem density_fault.eq : ∀ (x : TT [.leaf .slice, .leaf (.int .i64)]) (h : H), evalFn Try.prog (density_fault.tb) density_fault.A Try.f70 (.one (.leaf (.int .i64))) (TT.un [.leaf .slice, .leaf (.int .i64)] x) h = density_fault x.1 x.2 h := by
  intro x h
  kernel_rfl
noncomputable def density_fault.e : Entry := mkX [.leaf .slice, .leaf (.int .i64)] (.one (.leaf (.int .i64))) fun x h => density_fault x.1 x.2 h
theorem density_fault.ok : EntryOK Try.prog 70 (density_fault.e) := mkX_ok (density_fault.tbok) Try.mixed Try.func70 (by kernel_rfl) (density_fault.eq)
noncomputable def density_faultP (a0 : (List (Int × Int))) (a1 : Int) : Option (Int) := (density_fault (rowSV false [.int .i64, .int .i64] a0) a1 H.empty).bind fun p => rdRes false p.2 (.one (.leaf (.int .i64))) (Res.un (.one (.leaf (.int .i64))) p.1)
theorem density_faultP.eq : ∀ x : TT [.leaf (.row [.int .i64, .int .i64]), .leaf (.int .i64)], ((evalFn Try.prog (density_fault.tb) density_fault.A Try.f70 (.one (.leaf (.int .i64))) (TT.lo false [.leaf (.row [.int .i64, .int .i64]), .leaf (.int .i64)] x) H.empty).bind fun p => rdRes false p.2 (.one (.leaf (.int .i64))) (Res.un (.one (.leaf (.int .i64))) p.1)) = density_faultP x.1 x.2 := by
  intro x
  rw [show TT.lo false [.leaf (.row [.int .i64, .int .i64]), .leaf (.int .i64)] x = TT.un [.leaf .slice, .leaf (.int .i64)] ((rowSV false [.int .i64, .int .i64] x.1), x.2) from rfl, density_fault.eq]
  rfl
noncomputable def density_faultP.e : Entry := mkP [.leaf (.row [.int .i64, .int .i64]), .leaf (.int .i64)] (.one (.leaf (.int .i64))) fun x => density_faultP x.1 x.2
theorem density_faultP.ok : EntryOK Try.prog 70 (density_faultP.e) := mkP_ok (density_fault.tbok) Try.mixed Try.func70 (by kernel_rfl) density_faultP.eq

/-! ### spile/density.Check: function 56 -/
noncomputable def density_Check.tb : Table := tab [(70, density_faultP.e)] [] Table.nil
theorem density_Check.tbok : TabOK Try.prog (density_Check.tb) := TabOK.tab (TabOK.nil Try.prog) (all_cons density_faultP.ok (all_nil _)) (all_nil _)
noncomputable def density_Check.loop1 (a0 : SV) : (Int) × H → Option (Stp ((Int) × H) (Flow (Unit) (Int × Int) × H)) := fun (y1, h2) =>
(bif (decide (y1 < ((a0.len : Nat) : Int))) then ((rdRow true h2 [.int .i64, .int .i64] a0).bind fun s4 =>
((density_faultP s4 y1).bind fun r3 =>
(bif (!(decide (r3 = 0))) then (some (.done (.ret (y1, r3), h2))) else (some (.more ((IntKind.wrap .i64 (y1 + 1)), h2)))))) else (some (.done (.ex0 (), h2))))
noncomputable def density_Check (a0 : SV) (h : H) : Option ((Int × Int) × H) :=
(bif (decide ((128 : Int) < ((a0.len : Nat) : Int))) then (some (((-1), 8), h)) else (bif (decide (((a0.len : Nat) : Int) < 2)) then (some (((-1), 9), h)) else ((iter FUEL (density_Check.loop1 a0) (0, h)).bind fun (fl6, h5) => match fl6 with
| .next _ => none
| .ret rr7 => (some (rr7, h5))
| .ex0 _ =>
(guardO (0 ≤ (0 : Int) ∧ 0 < ((a0.len : Nat) : Int)) (guardO (V.nn ((V.add a0.a 0) : V) = true) ((rdT (.leaf (.int .i64)) h5 (V.add (V.add a0.a 0) 0)).bind fun x8 =>
(bif (!(decide (x8 = 0))) then (some ((0, 10), h5)) else (guardO (0 ≤ (IntKind.wrap .i64 (((a0.len : Nat) : Int) - 1)) ∧ (IntKind.wrap .i64 (((a0.len : Nat) : Int) - 1)) < ((a0.len : Nat) : Int)) (guardO (V.nn ((V.add a0.a (Int.toNat (IntKind.wrap .i64 (((a0.len : Nat) : Int) - 1)) * 2)) : V) = true) ((rdT (.leaf (.int .i64)) h5 (V.add (V.add a0.a (Int.toNat (IntKind.wrap .i64 (((a0.len : Nat) : Int) - 1)) * 2)) 0)).bind fun x9 =>
(bif (!(decide (x9 = 10000))) then (some (((IntKind.wrap .i64 (((a0.len : Nat) : Int) - 1)), 10), h5)) else (some (((-1), 0), h5))))))))))
| .ex1 _ => none)))
def density_Check.A : Ann := { lits := [], conds := [], loops := [(6, [17], [.leaf (.int .i64)], [], [], some 1, none)], regs := [] }
theorem density_Check.eq : ∀ (x : TT [.leaf .slice]) (h : H), evalFn Try.prog (density_Check.tb) density_Check.A Try.f56 (.many [.leaf (.int .i64), .leaf (.int .i64)]) (TT.un [.leaf .slice] x) h = density_Check x h := by
  intro x h
  kernel_rfl
noncomputable def density_Check.e : Entry := mkX [.leaf .slice] (.many [.leaf (.int .i64), .leaf (.int .i64)]) fun x h => density_Check x h
theorem density_Check.ok : EntryOK Try.prog 56 (density_Check.e) := mkX_ok (density_Check.tbok) Try.mixed Try.func56 (by kernel_rfl) (density_Check.eq)
noncomputable def density_CheckP (a0 : (List (Int × Int))) : Option (Int × Int) := (density_Check (rowSV false [.int .i64, .int .i64] a0) H.empty).bind fun p => rdRes false p.2 (.many [.leaf (.int .i64), .leaf (.int .i64)]) (Res.un (.many [.leaf (.int .i64), .leaf (.int .i64)]) p.1)
theorem density_CheckP.eq : ∀ x : TT [.leaf (.row [.int .i64, .int .i64])], ((evalFn Try.prog (density_Check.tb) density_Check.A Try.f56 (.many [.leaf (.int .i64), .leaf (.int .i64)]) (TT.lo false [.leaf (.row [.int .i64, .int .i64])] x) H.empty).bind fun p => rdRes false p.2 (.many [.leaf (.int .i64), .leaf (.int .i64)]) (Res.un (.many [.leaf (.int .i64), .leaf (.int .i64)]) p.1)) = density_CheckP x := by
  intro x
  rw [show TT.lo false [.leaf (.row [.int .i64, .int .i64])] x = TT.un [.leaf .slice] ((rowSV false [.int .i64, .int .i64] x)) from rfl, density_Check.eq]
  rfl
noncomputable def density_CheckP.e : Entry := mkP [.leaf (.row [.int .i64, .int .i64])] (.many [.leaf (.int .i64), .leaf (.int .i64)]) fun x => density_CheckP x
theorem density_CheckP.ok : EntryOK Try.prog 56 (density_CheckP.e) := mkP_ok (density_Check.tbok) Try.mixed Try.func56 (by kernel_rfl) density_CheckP.eq

/-! ### spile/interpolate.right: function 74 -/
noncomputable def interpolate_right.tb : Table := tab [(56, density_CheckP.e)] [] Table.nil
theorem interpolate_right.tbok : TabOK Try.prog (interpolate_right.tb) := TabOK.tab (TabOK.nil Try.prog) (all_cons density_CheckP.ok (all_nil _)) (all_nil _)
noncomputable def interpolate_right (a0 : SV) (h : H) : Option ((Bool) × H) :=
((rdRow true h [.int .i64, .int .i64] a0).bind fun s3 =>
((density_CheckP s3).bind fun (r1, r2) =>
(some ((decide (r2 = 0)), h))))
def interpolate_right.A : Ann := { lits := [], conds := [], loops := [], regs := [] }
theorem interpolate_right.eq : ∀ (x : TT [.leaf .slice]) (h : H), evalFn Try.prog (interpolate_right.tb) interpolate_right.A Try.f74 (.one (.leaf .bool)) (TT.un [.leaf .slice] x) h = interpolate_right x h := by
  intro x h
  kernel_rfl
noncomputable def interpolate_right.e : Entry := mkX [.leaf .slice] (.one (.leaf .bool)) fun x h => interpolate_right x h
theorem interpolate_right.ok : EntryOK Try.prog 74 (interpolate_right.e) := mkX_ok (interpolate_right.tbok) Try.mixed Try.func74 (by kernel_rfl) (interpolate_right.eq)
noncomputable def interpolate_rightP (a0 : (List (Int × Int))) : Option (Bool) := (interpolate_right (rowSV false [.int .i64, .int .i64] a0) H.empty).bind fun p => rdRes false p.2 (.one (.leaf .bool)) (Res.un (.one (.leaf .bool)) p.1)
theorem interpolate_rightP.eq : ∀ x : TT [.leaf (.row [.int .i64, .int .i64])], ((evalFn Try.prog (interpolate_right.tb) interpolate_right.A Try.f74 (.one (.leaf .bool)) (TT.lo false [.leaf (.row [.int .i64, .int .i64])] x) H.empty).bind fun p => rdRes false p.2 (.one (.leaf .bool)) (Res.un (.one (.leaf .bool)) p.1)) = interpolate_rightP x := by
  intro x
  rw [show TT.lo false [.leaf (.row [.int .i64, .int .i64])] x = TT.un [.leaf .slice] ((rowSV false [.int .i64, .int .i64] x)) from rfl, interpolate_right.eq]
  rfl
noncomputable def interpolate_rightP.e : Entry := mkP [.leaf (.row [.int .i64, .int .i64])] (.one (.leaf .bool)) fun x => interpolate_rightP x
theorem interpolate_rightP.ok : EntryOK Try.prog 74 (interpolate_rightP.e) := mkP_ok (interpolate_right.tbok) Try.mixed Try.func74 (by kernel_rfl) interpolate_rightP.eq

/-! ### sort.Search: function 45 -/
noncomputable def sort_Search.tb (T : Table) : Table := tab [] [] T
theorem sort_Search.tbok (T : Table) (hT : TabOK Try.prog T) : TabOK Try.prog (sort_Search.tb T) := TabOK.tab (hT) (all_nil _) (all_nil _)
noncomputable def sort_Search.loop1 (T : Table) (a1 : V) : (Int × Int) × H → Option (Stp ((Int × Int) × H) (Flow (Int) (Int) × H)) := fun ((y1, y2), h3) =>
(bif (decide (y1 < y2)) then (callV T.dy a1 [.int .i64 (IntKind.wrap .i64 ((Int.fdiv (IntKind.wrap .u64 ((IntKind.wrap .i64 (y1 + y2)))) (2 ^ (min (Int.toNat 1) (IntKind.bits .u64))))))] h3 fun v4 h5 =>
(Res.pack (.one (.leaf .bool)) v4).bind fun r6 =>
((bif (!r6) then (some (.next ((IntKind.wrap .i64 ((IntKind.wrap .i64 ((Int.fdiv (IntKind.wrap .u64 ((IntKind.wrap .i64 (y1 + y2)))) (2 ^ (min (Int.toNat 1) (IntKind.bits .u64)))))) + 1)), y2), h5)) else (some (.next (y1, (IntKind.wrap .i64 ((Int.fdiv (IntKind.wrap .u64 ((IntKind.wrap .i64 (y1 + y2)))) (2 ^ (min (Int.toNat 1) (IntKind.bits .u64))))))), h5)) : Option (Flow (Int × Int) (Int) × H)).bind fun (fl8, h7) => match fl8 with
| .next (y9, y10) =>
(some (.more ((y9, y10), h7)))
| .ret rr11 => (some (.done (.ret rr11, h7)))
| .ex0 _ => none
| .ex1 _ => none)) else (some (.done (.ex0 y1, h3))))
noncomputable def sort_Search (T : Table) (a0 : Int) (a1 : V) (h : H) : Option ((Int) × H) :=
((iter FUEL (sort_Search.loop1 T a1) ((0, a0), h)).bind fun (fl13, h12) => match fl13 with
| .next _ => none
| .ret rr14 => (some (rr14, h12))
| .ex0 y15 =>
(some (y15, h12))
| .ex1 _ => none)
def sort_Search.A : Ann := { lits := [], conds := [(21, [5, 6], [.leaf (.int .i64), .leaf (.int .i64)], none, none)], loops := [(2, [5, 6], [.leaf (.int .i64), .leaf (.int .i64)], [5], [.leaf (.int .i64)], some 0, none)], regs := [] }
theorem sort_Search.eq (T : Table) : ∀ (x : TT [.leaf (.int .i64), .leaf .dyn]) (h : H), evalFn Try.prog (sort_Search.tb T) sort_Search.A Try.f45 (.one (.leaf (.int .i64))) (TT.un [.leaf (.int .i64), .leaf .dyn] x) h = sort_Search T x.1 x.2 h := by
  intro x h
  kernel_rfl
noncomputable def sort_Search.e (T : Table) : Entry := mkX [.leaf (.int .i64), .leaf .dyn] (.one (.leaf (.int .i64))) fun x h => sort_Search T x.1 x.2 h
theorem sort_Search.ok (T : Table) (hT : TabOK Try.prog T) : EntryOK Try.prog 45 (sort_Search.e T) := mkX_ok (sort_Search.tbok T hT) Try.mixed Try.func45 (by kernel_rfl) (sort_Search.eq T)

/-! ### spile/interpolate.at$1: function 85 -/
noncomputable def interpolate_at_1.tb : Table := tab [] [] Table.nil
theorem interpolate_at_1.tbok : TabOK Try.prog (interpolate_at_1.tb) := TabOK.tab (TabOK.nil Try.prog) (all_nil _) (all_nil _)
noncomputable def interpolate_at_1 (a0 : Int) (a1 : V) (a2 : V) (h : H) : Option ((Bool) × H) :=
(let h1 : H := H.reserve h 0
((rdT (.leaf .slice) h1 a1).bind fun x2 =>
(guardO (0 ≤ a0 ∧ a0 < ((x2.len : Nat) : Int)) (guardO (V.nn ((V.add x2.a (Int.toNat a0 * 2)) : V) = true) ((rdT (.leaf (.int .i64)) h1 (V.add (V.add x2.a (Int.toNat a0 * 2)) 0)).bind fun x3 =>
((rdT (.leaf (.int .i64)) h1 a2).bind fun x4 =>
(some ((decide (x4 ≤ x3)), h1))))))))
def interpolate_at_1.A : Ann := { lits := [], conds := [], loops := [], regs := [] }
theorem interpolate_at_1.eq : ∀ (x : TT [.leaf (.int .i64), .leaf .ptr, .leaf .ptr]) (h : H), evalFn Try.prog (interpolate_at_1.tb) interpolate_at_1.A Try.f85 (.one (.leaf .bool)) (TT.un [.leaf (.int .i64), .leaf .ptr, .leaf .ptr] x) h = interpolate_at_1 x.1 x.2.1 x.2.2 h := by
  intro x h
  kernel_rfl
noncomputable def interpolate_at_1.e : Entry := mkX [.leaf (.int .i64), .leaf .ptr, .leaf .ptr] (.one (.leaf .bool)) fun x h => interpolate_at_1 x.1 x.2.1 x.2.2 h
theorem interpolate_at_1.ok : EntryOK Try.prog 85 (interpolate_at_1.e) := mkX_ok (interpolate_at_1.tbok) Try.mixed Try.func85 (by kernel_rfl) (interpolate_at_1.eq)

/-! ### spile/interpolate.between: function 86 -/
noncomputable def interpolate_between.tb : Table := tab [] [] Table.nil
theorem interpolate_between.tbok : TabOK Try.prog (interpolate_between.tb) := TabOK.tab (TabOK.nil Try.prog) (all_nil _) (all_nil _)
noncomputable def interpolate_between (a0 : (Int × Int)) (a1 : (Int × Int)) (a2 : Int) (h : H) : Option ((Int) × H) :=
(match a0 with
| (a0_0, a0_1) =>
(match a1 with
| (a1_0, a1_1) =>
(let h1 : H := H.new h [.int .i64 a0_0, .int .i64 a0_1] 2
(let h2 : H := H.new h1 [.int .i64 a1_0, .int .i64 a1_1] 2
((rdT (.leaf (.int .i64)) h2 (.hp h1.next 2 0)).bind fun x3 =>
((rdT (.leaf (.int .i64)) h2 (.hp h.next 2 0)).bind fun x4 =>
((rdT (.leaf (.int .i64)) h2 (.hp h.next 2 1)).bind fun x5 =>
((rdT (.leaf (.int .i64)) h2 (.hp h1.next 2 0)).bind fun x6 =>
((rdT (.leaf (.int .i64)) h2 (.hp h1.next 2 1)).bind fun x7 =>
((rdT (.leaf (.int .i64)) h2 (.hp h.next 2 0)).bind fun x8 =>
(guardO ((IntKind.wrap .i64 (2 * (IntKind.wrap .i64 (x3 - x4)))) ≠ 0) (some ((IntKind.wrap .i64 (Int.tdiv (IntKind.wrap .i64 ((IntKind.wrap .i64 (2 * (IntKind.wrap .i64 ((IntKind.wrap .i64 (x5 * (IntKind.wrap .i64 (x6 - a2)))) + (IntKind.wrap .i64 (x7 * (IntKind.wrap .i64 (a2 - x8)))))))) + (IntKind.wrap .i64 (x3 - x4)))) (IntKind.wrap .i64 (2 * (IntKind.wrap .i64 (x3 - x4)))))), h2)))))))))))))
def interpolate_between.A : Ann := { lits := [], conds := [], loops := [], regs := [] }
theorem interpolate_between.eq : ∀ (x : TT [.agg [.int .i64, .int .i64], .agg [.int .i64, .int .i64], .leaf (.int .i64)]) (h : H), evalFn Try.prog (interpolate_between.tb) interpolate_between.A Try.f86 (.one (.leaf (.int .i64))) (TT.un [.agg [.int .i64, .int .i64], .agg [.int .i64, .int .i64], .leaf (.int .i64)] x) h = interpolate_between x.1 x.2.1 x.2.2 h := by
  intro x h
  kernel_rfl
noncomputable def interpolate_between.e : Entry := mkX [.agg [.int .i64, .int .i64], .agg [.int .i64, .int .i64], .leaf (.int .i64)] (.one (.leaf (.int .i64))) fun x h => interpolate_between x.1 x.2.1 x.2.2 h
theorem interpolate_between.ok : EntryOK Try.prog 86 (interpolate_between.e) := mkX_ok (interpolate_between.tbok) Try.mixed Try.func86 (by kernel_rfl) (interpolate_between.eq)
noncomputable def interpolate_betweenP (a0 : (Int × Int)) (a1 : (Int × Int)) (a2 : Int) : Option (Int) := (interpolate_between a0 a1 a2 H.empty).bind fun p => rdRes false p.2 (.one (.leaf (.int .i64))) (Res.un (.one (.leaf (.int .i64))) p.1)
theorem interpolate_betweenP.eq : ∀ x : TT [.agg [.int .i64, .int .i64], .agg [.int .i64, .int .i64], .leaf (.int .i64)], ((evalFn Try.prog (interpolate_between.tb) interpolate_between.A Try.f86 (.one (.leaf (.int .i64))) (TT.lo false [.agg [.int .i64, .int .i64], .agg [.int .i64, .int .i64], .leaf (.int .i64)] x) H.empty).bind fun p => rdRes false p.2 (.one (.leaf (.int .i64))) (Res.un (.one (.leaf (.int .i64))) p.1)) = interpolate_betweenP x.1 x.2.1 x.2.2 := by
  intro x
  rw [show TT.lo false [.agg [.int .i64, .int .i64], .agg [.int .i64, .int .i64], .leaf (.int .i64)] x = TT.un [.agg [.int .i64, .int .i64], .agg [.int .i64, .int .i64], .leaf (.int .i64)] (x.1, x.2.1, x.2.2) from rfl, interpolate_between.eq]
  rfl
noncomputable def interpolate_betweenP.e : Entry := mkP [.agg [.int .i64, .int .i64], .agg [.int .i64, .int .i64], .leaf (.int .i64)] (.one (.leaf (.int .i64))) fun x => interpolate_betweenP x.1 x.2.1 x.2.2
theorem interpolate_betweenP.ok : EntryOK Try.prog 86 (interpolate_betweenP.e) := mkP_ok (interpolate_between.tbok) Try.mixed Try.func86 (by kernel_rfl) interpolate_betweenP.eq

/-! ### spile/interpolate.at: function 75 -/
noncomputable def interpolate_at.tb : Table := tab [(86, interpolate_betweenP.e)] [(85, interpolate_at_1.e)] Table.nil
theorem interpolate_at.tbok : TabOK Try.prog (interpolate_at.tb) := TabOK.tab (TabOK.nil Try.prog) (all_cons interpolate_betweenP.ok (all_nil _)) (all_cons interpolate_at_1.ok (all_nil _))
noncomputable def interpolate_at (a0 : SV) (a1 : Int) (h : H) : Option ((Int) × H) :=
(let h1 : H := H.new h [.slice a0.a a0.len a0.cap a0.tail] 1
(let h2 : H := H.new h1 [.int .i64 a1] 1
((rdT (.leaf .slice) h2 (.hp h.next 1 0)).bind fun x3 =>
((sort_Search interpolate_at.tb ((x3.len : Nat) : Int) (.func 85 [.hp h.next 1 0, .hp h1.next 1 0] : V) h2).bind fun (r4, h5) =>
(let h6 : H := H.reserve h5 0
((rdT (.leaf .slice) h6 (.hp h.next 1 0)).bind fun x7 =>
(guardO (0 ≤ r4 ∧ r4 < ((x7.len : Nat) : Int)) (guardO (V.nn ((V.add x7.a (Int.toNat r4 * 2)) : V) = true) ((rdT (.leaf (.int .i64)) h6 (V.add (V.add x7.a (Int.toNat r4 * 2)) 0)).bind fun x8 =>
((rdT (.leaf (.int .i64)) h6 (.hp h1.next 1 0)).bind fun x9 =>
(bif (decide (x8 = x9)) then ((rdT (.leaf .slice) h6 (.hp h.next 1 0)).bind fun x10 =>
(guardO (0 ≤ r4 ∧ r4 < ((x10.len : Nat) : Int)) (guardO (V.nn ((V.add x10.a (Int.toNat r4 * 2)) : V) = true) ((rdT (.leaf (.int .i64)) h6 (V.add (V.add x10.a (Int.toNat r4 * 2)) 1)).bind fun x11 =>
(some (x11, h6)))))) else (let h12 : H := H.reserve h6 0
((rdT (.leaf .slice) h12 (.hp h.next 1 0)).bind fun x13 =>
(guardO (0 ≤ (IntKind.wrap .i64 (r4 - 1)) ∧ (IntKind.wrap .i64 (r4 - 1)) < ((x13.len : Nat) : Int)) ((rdT (.agg [.int .i64, .int .i64]) h12 (V.add x13.a (Int.toNat (IntKind.wrap .i64 (r4 - 1)) * 2))).bind fun (x14_0, x14_1) =>
((rdT (.leaf .slice) h12 (.hp h.next 1 0)).bind fun x15 =>
(guardO (0 ≤ r4 ∧ r4 < ((x15.len : Nat) : Int)) ((rdT (.agg [.int .i64, .int .i64]) h12 (V.add x15.a (Int.toNat r4 * 2))).bind fun (x16_0, x16_1) =>
((rdT (.leaf (.int .i64)) h12 (.hp h1.next 1 0)).bind fun x17 =>
((interpolate_betweenP (x14_0, x14_1) (x16_0, x16_1) x17).bind fun r18 =>
(some (r18, h12))))))))))))))))))))))
def interpolate_at.A : Ann := { lits := [], conds := [], loops := [], regs := [] }
noncomputable def interpolate_at.tc : Table := tab [(45, sort_Search.e (interpolate_at.tb))] [] (interpolate_at.tb)
theorem interpolate_at.tcok : TabOK Try.prog (interpolate_at.tc) := TabOK.tab (interpolate_at.tbok) (all_cons (sort_Search.ok _ (interpolate_at.tbok)) (all_nil _)) (all_nil _)
theorem interpolate_at.eq : ∀ (x : TT [.leaf .slice, .leaf (.int .i64)]) (h : H), evalFn Try.prog (interpolate_at.tc) interpolate_at.A Try.f75 (.one (.leaf (.int .i64))) (TT.un [.leaf .slice, .leaf (.int .i64)] x) h = interpolate_at x.1 x.2 h := by
  intro x h
  kernel_rfl
noncomputable def interpolate_at.e : Entry := mkX [.leaf .slice, .leaf (.int .i64)] (.one (.leaf (.int .i64))) fun x h => interpolate_at x.1 x.2 h
theorem interpolate_at.ok : EntryOK Try.prog 75 (interpolate_at.e) := mkX_ok (interpolate_at.tcok) Try.mixed Try.func75 (by kernel_rfl) (interpolate_at.eq)
noncomputable def interpolate_atP (a0 : (List (Int × Int))) (a1 : Int) : Option (Int) := (interpolate_at (rowSV false [.int .i64, .int .i64] a0) a1 H.empty).bind fun p => rdRes false p.2 (.one (.leaf (.int .i64))) (Res.un (.one (.leaf (.int .i64))) p.1)
theorem interpolate_atP.eq : ∀ x : TT [.leaf (.row [.int .i64, .int .i64]), .leaf (.int .i64)], ((evalFn Try.prog (interpolate_at.tc) interpolate_at.A Try.f75 (.one (.leaf (.int .i64))) (TT.lo false [.leaf (.row [.int .i64, .int .i64]), .leaf (.int .i64)] x) H.empty).bind fun p => rdRes false p.2 (.one (.leaf (.int .i64))) (Res.un (.one (.leaf (.int .i64))) p.1)) = interpolate_atP x.1 x.2 := by
  intro x
  rw [show TT.lo false [.leaf (.row [.int .i64, .int .i64]), .leaf (.int .i64)] x = TT.un [.leaf .slice, .leaf (.int .i64)] ((rowSV false [.int .i64, .int .i64] x.1), x.2) from rfl, interpolate_at.eq]
  rfl
noncomputable def interpolate_atP.e : Entry := mkP [.leaf (.row [.int .i64, .int .i64]), .leaf (.int .i64)] (.one (.leaf (.int .i64))) fun x => interpolate_atP x.1 x.2
theorem interpolate_atP.ok : EntryOK Try.prog 75 (interpolate_atP.e) := mkP_ok (interpolate_at.tcok) Try.mixed Try.func75 (by kernel_rfl) interpolate_atP.eq

/-! ### spile/interpolate.Density: function 60 -/
noncomputable def interpolate_Density.tb : Table := tab [(74, interpolate_rightP.e), (75, interpolate_atP.e)] [] Table.nil
theorem interpolate_Density.tbok : TabOK Try.prog (interpolate_Density.tb) := TabOK.tab (TabOK.nil Try.prog) (all_cons interpolate_rightP.ok (all_cons interpolate_atP.ok (all_nil _))) (all_nil _)
noncomputable def interpolate_Density (a0 : SV) (a1 : Int) (h : H) : Option ((Int × Int) × H) :=
((rdRow true h [.int .i64, .int .i64] a0).bind fun s2 =>
((interpolate_rightP s2).bind fun r1 =>
(bif (!r1) then (some ((0, 1), h)) else (((bif !(decide (a1 < 0)) then (some ((decide ((10000 : Int) < a1)), h)) else (some (true, h)))).bind fun (y3, h4) =>
(bif y3 then (some ((0, 2), h4)) else ((rdRow true h4 [.int .i64, .int .i64] a0).bind fun s6 =>
((interpolate_atP s6 a1).bind fun r5 =>
(some ((r5, 0), h4)))))))))
def interpolate_Density.A : Ann := { lits := [], conds := [], loops := [], regs := [(3, [10], [.leaf .bool])] }
theorem interpolate_Density.eq : ∀ (x : TT [.leaf .slice, .leaf (.int .i64)]) (h : H), evalFn Try.prog (interpolate_Density.tb) interpolate_Density.A Try.f60 (.many [.leaf (.int .i64), .leaf (.int .i64)]) (TT.un [.leaf .slice, .leaf (.int .i64)] x) h = interpolate_Density x.1 x.2 h := by
  intro x h
  kernel_rfl
noncomputable def interpolate_Density.e : Entry := mkX [.leaf .slice, .leaf (.int .i64)] (.many [.leaf (.int .i64), .leaf (.int .i64)]) fun x h => interpolate_Density x.1 x.2 h
theorem interpolate_Density.ok : EntryOK Try.prog 60 (interpolate_Density.e) := mkX_ok (interpolate_Density.tbok) Try.mixed Try.func60 (by kernel_rfl) (interpolate_Density.eq)
noncomputable def interpolate_DensityP (a0 : (List (Int × Int))) (a1 : Int) : Option (Int × Int) := (interpolate_Density (rowSV false [.int .i64, .int .i64] a0) a1 H.empty).bind fun p => rdRes false p.2 (.many [.leaf (.int .i64), .leaf (.int .i64)]) (Res.un (.many [.leaf (.int .i64), .leaf (.int .i64)]) p.1)
theorem interpolate_DensityP.eq : ∀ x : TT [.leaf (.row [.int .i64, .int .i64]), .leaf (.int .i64)], ((evalFn Try.prog (interpolate_Density.tb) interpolate_Density.A Try.f60 (.many [.leaf (.int .i64), .leaf (.int .i64)]) (TT.lo false [.leaf (.row [.int .i64, .int .i64]), .leaf (.int .i64)] x) H.empty).bind fun p => rdRes false p.2 (.many [.leaf (.int .i64), .leaf (.int .i64)]) (Res.un (.many [.leaf (.int .i64), .leaf (.int .i64)]) p.1)) = interpolate_DensityP x.1 x.2 := by
  intro x
  rw [show TT.lo false [.leaf (.row [.int .i64, .int .i64]), .leaf (.int .i64)] x = TT.un [.leaf .slice, .leaf (.int .i64)] ((rowSV false [.int .i64, .int .i64] x.1), x.2) from rfl, interpolate_Density.eq]
  rfl
noncomputable def interpolate_DensityP.e : Entry := mkP [.leaf (.row [.int .i64, .int .i64]), .leaf (.int .i64)] (.many [.leaf (.int .i64), .leaf (.int .i64)]) fun x => interpolate_DensityP x.1 x.2
theorem interpolate_DensityP.ok : EntryOK Try.prog 60 (interpolate_DensityP.e) := mkP_ok (interpolate_Density.tbok) Try.mixed Try.func60 (by kernel_rfl) interpolate_DensityP.eq

/-! ### spile/alcohol.of: function 44 -/
noncomputable def alcohol_of.tb : Table := tab [(60, interpolate_DensityP.e)] [] Table.nil
theorem alcohol_of.tbok : TabOK Try.prog (alcohol_of.tb) := TabOK.tab (TabOK.nil Try.prog) (all_cons interpolate_DensityP.ok (all_nil _)) (all_nil _)
noncomputable def alcohol_of (a0 : SV) (a1 : Int) (h : H) : Option ((Int) × H) :=
((rdRow true h [.int .i64, .int .i64] a0).bind fun s3 =>
((interpolate_DensityP s3 a1).bind fun (r1, r2) =>
(some (r1, h))))
def alcohol_of.A : Ann := { lits := [], conds := [], loops := [], regs := [] }
theorem alcohol_of.eq : ∀ (x : TT [.leaf .slice, .leaf (.int .i64)]) (h : H), evalFn Try.prog (alcohol_of.tb) alcohol_of.A Try.f44 (.one (.leaf (.int .i64))) (TT.un [.leaf .slice, .leaf (.int .i64)] x) h = alcohol_of x.1 x.2 h := by
  intro x h
  kernel_rfl
noncomputable def alcohol_of.e : Entry := mkX [.leaf .slice, .leaf (.int .i64)] (.one (.leaf (.int .i64))) fun x h => alcohol_of x.1 x.2 h
theorem alcohol_of.ok : EntryOK Try.prog 44 (alcohol_of.e) := mkX_ok (alcohol_of.tbok) Try.mixed Try.func44 (by kernel_rfl) (alcohol_of.eq)
noncomputable def alcohol_ofP (a0 : (List (Int × Int))) (a1 : Int) : Option (Int) := (alcohol_of (rowSV false [.int .i64, .int .i64] a0) a1 H.empty).bind fun p => rdRes false p.2 (.one (.leaf (.int .i64))) (Res.un (.one (.leaf (.int .i64))) p.1)
theorem alcohol_ofP.eq : ∀ x : TT [.leaf (.row [.int .i64, .int .i64]), .leaf (.int .i64)], ((evalFn Try.prog (alcohol_of.tb) alcohol_of.A Try.f44 (.one (.leaf (.int .i64))) (TT.lo false [.leaf (.row [.int .i64, .int .i64]), .leaf (.int .i64)] x) H.empty).bind fun p => rdRes false p.2 (.one (.leaf (.int .i64))) (Res.un (.one (.leaf (.int .i64))) p.1)) = alcohol_ofP x.1 x.2 := by
  intro x
  rw [show TT.lo false [.leaf (.row [.int .i64, .int .i64]), .leaf (.int .i64)] x = TT.un [.leaf .slice, .leaf (.int .i64)] ((rowSV false [.int .i64, .int .i64] x.1), x.2) from rfl, alcohol_of.eq]
  rfl
noncomputable def alcohol_ofP.e : Entry := mkP [.leaf (.row [.int .i64, .int .i64]), .leaf (.int .i64)] (.one (.leaf (.int .i64))) fun x => alcohol_ofP x.1 x.2
theorem alcohol_ofP.ok : EntryOK Try.prog 44 (alcohol_ofP.e) := mkP_ok (alcohol_of.tbok) Try.mixed Try.func44 (by kernel_rfl) alcohol_ofP.eq
end Go.Proofs.Ytaepkinihaipkaa
