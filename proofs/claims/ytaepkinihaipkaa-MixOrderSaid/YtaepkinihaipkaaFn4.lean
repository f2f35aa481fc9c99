/- The functions of the program as Lean functions, each with the equation by which the evaluator is that function. Written by a program of this session (evdrive.py). Conditions: none. -/
import Derived.Test.YtaepkinihaipkaaProg
import Derived.Test.YtaepkinihaipkaaEvSpec
import Derived.Test.YtaepkinihaipkaaFn3
namespace Go.Proofs.Ytaepkinihaipkaa
open Go Go.Proofs.Ytaepkinihaipkaa.Ev
set_option maxRecDepth 100000
set_option linter.unusedVariables false
/-! ### spile/alcohol.Check: function 42 -/
noncomputable def alcohol_Check.tb : Table := tab [(44, alcohol_ofP.e), (56, density_CheckP.e)] [] Table.nil
theorem alcohol_Check.tbok : TabOK Try.prog (alcohol_Check.tb) := TabOK.tab (TabOK.nil Try.prog) (all_cons alcohol_ofP.ok (all_cons density_CheckP.ok (all_nil _))) (all_nil _)
noncomputable def alcohol_Check (a0 : SV) (a1 : (Int × Int)) (h : H) : Option ((Int) × H) :=
(match a1 with
| (a1_0, a1_1) =>
(let h1 : H := H.new h [.int .i64 a1_0, .int .i64 a1_1] 2
((rdRow true h1 [.int .i64, .int .i64] a0).bind fun s4 =>
((density_CheckP s4).bind fun (r2, r3) =>
(bif (!(decide (r3 = 0))) then (some (1, h1)) else ((((rdT (.leaf (.int .i64)) h1 (.hp h.next 2 0)).bind fun x5 =>
(bif !(decide (x5 < 0)) then ((rdT (.leaf (.int .i64)) h1 (.hp h.next 2 0)).bind fun x6 =>
(bif !(decide ((10737418240000 : Int) < x6)) then ((rdT (.leaf (.int .i64)) h1 (.hp h.next 2 1)).bind fun x7 =>
(bif !(decide (x7 < 0)) then ((rdT (.leaf (.int .i64)) h1 (.hp h.next 2 1)).bind fun x8 =>
(some ((decide ((128849018880000 : Int) < x8)), h1))) else (some (true, h1)))) else (some (true, h1)))) else (some (true, h1))))).bind fun (y9, h10) =>
(bif y9 then (some (2, h10)) else (let h11 : H := H.reserve h10 0
((rdT (.leaf (.int .i64)) h11 (.hp h.next 2 0)).bind fun x12 =>
((rdRow true h11 [.int .i64, .int .i64] a0).bind fun s14 =>
((alcohol_ofP s14 10000).bind fun r13 =>
((rdT (.leaf (.int .i64)) h11 (.hp h.next 2 1)).bind fun x15 =>
(bif (decide ((IntKind.wrap .i64 (x15 * 10000)) < (IntKind.wrap .i64 (x12 * r13)))) then (some (10, h11)) else (some (0, h11)))))))))))))))
def alcohol_Check.A : Ann := { lits := [], conds := [], loops := [], regs := [(4, [15], [.leaf .bool])] }
theorem alcohol_Check.eq : ∀ (x : TT [.leaf .slice, .agg [.int .i64, .int .i64]]) (h : H), evalFn Try.prog (alcohol_Check.tb) alcohol_Check.A Try.f42 (.one (.leaf (.int .i64))) (TT.un [.leaf .slice, .agg [.int .i64, .int .i64]] x) h = alcohol_Check x.1 x.2 h := by
  intro x h
  kernel_rfl
noncomputable def alcohol_Check.e : Entry := mkX [.leaf .slice, .agg [.int .i64, .int .i64]] (.one (.leaf (.int .i64))) fun x h => alcohol_Check x.1 x.2 h
theorem alcohol_Check.ok : EntryOK Try.prog 42 (alcohol_Check.e) := mkX_ok (alcohol_Check.tbok) Try.mixed Try.func42 (by kernel_rfl) (alcohol_Check.eq)
noncomputable def alcohol_CheckP (a0 : (List (Int × Int))) (a1 : (Int × Int)) : Option (Int) := (alcohol_Check (rowSV false [.int .i64, .int .i64] a0) a1 H.empty).bind fun p => rdRes false p.2 (.one (.leaf (.int .i64))) (Res.un (.one (.leaf (.int .i64))) p.1)
theorem alcohol_CheckP.eq : ∀ x : TT [.leaf (.row [.int .i64, .int .i64]), .agg [.int .i64, .int .i64]], ((evalFn Try.prog (alcohol_Check.tb) alcohol_Check.A Try.f42 (.one (.leaf (.int .i64))) (TT.lo false [.leaf (.row [.int .i64, .int .i64]), .agg [.int .i64, .int .i64]] x) H.empty).bind fun p => rdRes false p.2 (.one (.leaf (.int .i64))) (Res.un (.one (.leaf (.int .i64))) p.1)) = alcohol_CheckP x.1 x.2 := by
  intro x
  rw [show TT.lo false [.leaf (.row [.int .i64, .int .i64]), .agg [.int .i64, .int .i64]] x = TT.un [.leaf .slice, .agg [.int .i64, .int .i64]] ((rowSV false [.int .i64, .int .i64] x.1), x.2) from rfl, alcohol_Check.eq]
  rfl
noncomputable def alcohol_CheckP.e : Entry := mkP [.leaf (.row [.int .i64, .int .i64]), .agg [.int .i64, .int .i64]] (.one (.leaf (.int .i64))) fun x => alcohol_CheckP x.1 x.2
theorem alcohol_CheckP.ok : EntryOK Try.prog 42 (alcohol_CheckP.e) := mkP_ok (alcohol_Check.tbok) Try.mixed Try.func42 (by kernel_rfl) alcohol_CheckP.eq

/-! ### spile/mix.mixture$1: function 57 -/
noncomputable def mix_mixture_1.tb : Table := tab [(42, alcohol_CheckP.e)] [] Table.nil
theorem mix_mixture_1.tbok : TabOK Try.prog (mix_mixture_1.tb) := TabOK.tab (TabOK.nil Try.prog) (all_cons alcohol_CheckP.ok (all_nil _)) (all_nil _)
noncomputable def mix_mixture_1 (a0 : (Int × Int)) (a1 : V) (h : H) : Option ((Bool) × H) :=
(match a0 with
| (a0_0, a0_1) =>
(let h1 : H := H.new h [.int .i64 a0_0, .int .i64 a0_1] 2
((rdT (.leaf .slice) h1 a1).bind fun x2 =>
((rdT (.agg [.int .i64, .int .i64]) h1 (.hp h.next 2 0)).bind fun (x3_0, x3_1) =>
((rdRow true h1 [.int .i64, .int .i64] x2).bind fun s5 =>
((alcohol_CheckP s5 (x3_0, x3_1)).bind fun r4 =>
(some ((!(decide (r4 = 0))), h1))))))))
def mix_mixture_1.A : Ann := { lits := [], conds := [], loops := [], regs := [] }
theorem mix_mixture_1.eq : ∀ (x : TT [.agg [.int .i64, .int .i64], .leaf .ptr]) (h : H), evalFn Try.prog (mix_mixture_1.tb) mix_mixture_1.A Try.f57 (.one (.leaf .bool)) (TT.un [.agg [.int .i64, .int .i64], .leaf .ptr] x) h = mix_mixture_1 x.1 x.2 h := by
  intro x h
  kernel_rfl
noncomputable def mix_mixture_1.e : Entry := mkX [.agg [.int .i64, .int .i64], .leaf .ptr] (.one (.leaf .bool)) fun x h => mix_mixture_1 x.1 x.2 h
theorem mix_mixture_1.ok : EntryOK Try.prog 57 (mix_mixture_1.e) := mkX_ok (mix_mixture_1.tbok) Try.mixed Try.func57 (by kernel_rfl) (mix_mixture_1.eq)

/-! ### spile/mix.mixture: function 37 -/
noncomputable def mix_mixture.tb : Table := tab [(11, mix_SumP.e), (56, density_CheckP.e)] [(57, mix_mixture_1.e)] Table.nil
theorem mix_mixture.tbok : TabOK Try.prog (mix_mixture.tb) := TabOK.tab (TabOK.nil Try.prog) (all_cons mix_SumP.ok (all_cons density_CheckP.ok (all_nil _))) (all_cons mix_mixture_1.ok (all_nil _))
noncomputable def mix_mixture (a0 : SV) (a1 : SV) (h : H) : Option (((Int × Int) × Int) × H) :=
(let h1 : H := H.new h [.slice a0.a a0.len a0.cap a0.tail] 1
(let h2 : H := H.new h1 [.int .i64 0, .int .i64 0] 2
((rdT (.leaf .slice) h2 (.hp h.next 1 0)).bind fun x3 =>
((rdRow true h2 [.int .i64, .int .i64] x3).bind fun s6 =>
((density_CheckP s6).bind fun (r4, r5) =>
(bif (decide ((8 : Int) < ((a1.len : Nat) : Int))) then ((H.wrs h2 (.hp h1.next 2 0) [.int .i64 0, .int .i64 0]).bind fun h7 =>
((rdT (.agg [.int .i64, .int .i64]) h7 (.hp h1.next 2 0 : V)).bind fun (x8_0, x8_1) =>
(some (((x8_0, x8_1), 8), h7)))) else (((bif !(!(decide (r5 = 0))) then ((slices_ContainsFunc_api_Liquid_api_Liquid mix_mixture.tb a1 (.func 57 [.hp h.next 1 0] : V) h2).bind fun (r9, h10) =>
(some (r9, h10))) else (some (true, h2)))).bind fun (y11, h12) =>
(bif y11 then ((H.wrs h12 (.hp h1.next 2 0) [.int .i64 0, .int .i64 0]).bind fun h13 =>
((rdT (.agg [.int .i64, .int .i64]) h13 (.hp h1.next 2 0 : V)).bind fun (x14_0, x14_1) =>
(some (((x14_0, x14_1), 1), h13)))) else ((rdRow true h12 [.int .i64, .int .i64] a1).bind fun s17 =>
((mix_SumP s17).bind fun ((r15_0, r15_1), r16) =>
((H.wrs h12 (.hp h1.next 2 0) [.int .i64 r15_0, .int .i64 r15_1]).bind fun h18 =>
((rdT (.agg [.int .i64, .int .i64]) h18 (.hp h1.next 2 0 : V)).bind fun (x19_0, x19_1) =>
(some (((x19_0, x19_1), r16), h18))))))))))))))
def mix_mixture.A : Ann := { lits := [], conds := [], loops := [], regs := [(4, [18], [.leaf .bool])] }
noncomputable def mix_mixture.tc : Table := tab [(26, slices_ContainsFunc_api_Liquid_api_Liquid.e (mix_mixture.tb))] [] (mix_mixture.tb)
theorem mix_mixture.tcok : TabOK Try.prog (mix_mixture.tc) := TabOK.tab (mix_mixture.tbok) (all_cons (slices_ContainsFunc_api_Liquid_api_Liquid.ok _ (mix_mixture.tbok)) (all_nil _)) (all_nil _)
theorem mix_mixture.eq : ∀ (x : TT [.leaf .slice, .leaf .slice]) (h : H), evalFn Try.prog (mix_mixture.tc) mix_mixture.A Try.f37 (.many [.agg [.int .i64, .int .i64], .leaf (.int .i64)]) (TT.un [.leaf .slice, .leaf .slice] x) h = mix_mixture x.1 x.2 h := by
  intro x h
  kernel_rfl
noncomputable def mix_mixture.e : Entry := mkX [.leaf .slice, .leaf .slice] (.many [.agg [.int .i64, .int .i64], .leaf (.int .i64)]) fun x h => mix_mixture x.1 x.2 h
theorem mix_mixture.ok : EntryOK Try.prog 37 (mix_mixture.e) := mkX_ok (mix_mixture.tcok) Try.mixed Try.func37 (by kernel_rfl) (mix_mixture.eq)
noncomputable def mix_mixtureP (a0 : (List (Int × Int))) (a1 : (List (Int × Int))) : Option ((Int × Int) × Int) := (mix_mixture (rowSV false [.int .i64, .int .i64] a0) (rowSV false [.int .i64, .int .i64] a1) H.empty).bind fun p => rdRes false p.2 (.many [.agg [.int .i64, .int .i64], .leaf (.int .i64)]) (Res.un (.many [.agg [.int .i64, .int .i64], .leaf (.int .i64)]) p.1)
theorem mix_mixtureP.eq : ∀ x : TT [.leaf (.row [.int .i64, .int .i64]), .leaf (.row [.int .i64, .int .i64])], ((evalFn Try.prog (mix_mixture.tc) mix_mixture.A Try.f37 (.many [.agg [.int .i64, .int .i64], .leaf (.int .i64)]) (TT.lo false [.leaf (.row [.int .i64, .int .i64]), .leaf (.row [.int .i64, .int .i64])] x) H.empty).bind fun p => rdRes false p.2 (.many [.agg [.int .i64, .int .i64], .leaf (.int .i64)]) (Res.un (.many [.agg [.int .i64, .int .i64], .leaf (.int .i64)]) p.1)) = mix_mixtureP x.1 x.2 := by
  intro x
  rw [show TT.lo false [.leaf (.row [.int .i64, .int .i64]), .leaf (.row [.int .i64, .int .i64])] x = TT.un [.leaf .slice, .leaf .slice] ((rowSV false [.int .i64, .int .i64] x.1), (rowSV false [.int .i64, .int .i64] x.2)) from rfl, mix_mixture.eq]
  rfl
noncomputable def mix_mixtureP.e : Entry := mkP [.leaf (.row [.int .i64, .int .i64]), .leaf (.row [.int .i64, .int .i64])] (.many [.agg [.int .i64, .int .i64], .leaf (.int .i64)]) fun x => mix_mixtureP x.1 x.2
theorem mix_mixtureP.ok : EntryOK Try.prog 37 (mix_mixtureP.e) := mkP_ok (mix_mixture.tcok) Try.mixed Try.func37 (by kernel_rfl) mix_mixtureP.eq

/-! ### spile/alcohol.Strength$1: function 43 -/
noncomputable def alcohol_Strength_1.tb : Table := tab [(44, alcohol_ofP.e)] [] Table.nil
theorem alcohol_Strength_1.tbok : TabOK Try.prog (alcohol_Strength_1.tb) := TabOK.tab (TabOK.nil Try.prog) (all_cons alcohol_ofP.ok (all_nil _)) (all_nil _)
noncomputable def alcohol_Strength_1 (a0 : Int) (a1 : V) (a2 : V) (h : H) : Option ((Bool) × H) :=
(let h1 : H := H.reserve h 0
(guardO (V.nn (a1 : V) = true) ((rdT (.leaf (.int .i64)) h1 (V.add a1 0)).bind fun x2 =>
((rdT (.leaf .slice) h1 a2).bind fun x3 =>
((rdRow true h1 [.int .i64, .int .i64] x3).bind fun s5 =>
((alcohol_ofP s5 a0).bind fun r4 =>
(guardO (V.nn (a1 : V) = true) ((rdT (.leaf (.int .i64)) h1 (V.add a1 1)).bind fun x6 =>
(some ((decide ((IntKind.wrap .i64 (x2 * r4)) < (IntKind.wrap .i64 (x6 * a0)))), h1))))))))))
def alcohol_Strength_1.A : Ann := { lits := [], conds := [], loops := [], regs := [] }
theorem alcohol_Strength_1.eq : ∀ (x : TT [.leaf (.int .i64), .leaf .ptr, .leaf .ptr]) (h : H), evalFn Try.prog (alcohol_Strength_1.tb) alcohol_Strength_1.A Try.f43 (.one (.leaf .bool)) (TT.un [.leaf (.int .i64), .leaf .ptr, .leaf .ptr] x) h = alcohol_Strength_1 x.1 x.2.1 x.2.2 h := by
  intro x h
  kernel_rfl
noncomputable def alcohol_Strength_1.e : Entry := mkX [.leaf (.int .i64), .leaf .ptr, .leaf .ptr] (.one (.leaf .bool)) fun x h => alcohol_Strength_1 x.1 x.2.1 x.2.2 h
theorem alcohol_Strength_1.ok : EntryOK Try.prog 43 (alcohol_Strength_1.e) := mkX_ok (alcohol_Strength_1.tbok) Try.mixed Try.func43 (by kernel_rfl) (alcohol_Strength_1.eq)

/-! ### spile/alcohol.Strength: function 23 -/
noncomputable def alcohol_Strength.tb : Table := tab [(42, alcohol_CheckP.e)] [(43, alcohol_Strength_1.e)] Table.nil
theorem alcohol_Strength.tbok : TabOK Try.prog (alcohol_Strength.tb) := TabOK.tab (TabOK.nil Try.prog) (all_cons alcohol_CheckP.ok (all_nil _)) (all_cons alcohol_Strength_1.ok (all_nil _))
noncomputable def alcohol_Strength (a0 : SV) (a1 : (Int × Int)) (h : H) : Option ((Int × Int) × H) :=
(match a1 with
| (a1_0, a1_1) =>
(let h1 : H := H.new h [.slice a0.a a0.len a0.cap a0.tail] 1
(let h2 : H := H.new h1 [.int .i64 a1_0, .int .i64 a1_1] 2
((rdT (.leaf .slice) h2 (.hp h.next 1 0)).bind fun x3 =>
((rdT (.agg [.int .i64, .int .i64]) h2 (.hp h1.next 2 0)).bind fun (x4_0, x4_1) =>
((rdRow true h2 [.int .i64, .int .i64] x3).bind fun s6 =>
((alcohol_CheckP s6 (x4_0, x4_1)).bind fun r5 =>
(bif (!(decide (r5 = 0))) then (some ((0, 1), h2)) else ((rdT (.agg [.int .i64, .int .i64]) h2 (.hp h1.next 2 0)).bind fun (x7_0, x7_1) =>
(bif (decide (x7_0 = 0) && (decide (x7_1 = 0))) then (some ((0, 0), h2)) else ((sort_Search alcohol_Strength.tb 10001 (.func 43 [.hp h1.next 2 0, .hp h.next 1 0] : V) h2).bind fun (r8, h9) =>
(some (((IntKind.wrap .i64 (r8 - 1)), 0), h9)))))))))))))
def alcohol_Strength.A : Ann := { lits := [], conds := [], loops := [], regs := [] }
noncomputable def alcohol_Strength.tc : Table := tab [(45, sort_Search.e (alcohol_Strength.tb))] [] (alcohol_Strength.tb)
theorem alcohol_Strength.tcok : TabOK Try.prog (alcohol_Strength.tc) := TabOK.tab (alcohol_Strength.tbok) (all_cons (sort_Search.ok _ (alcohol_Strength.tbok)) (all_nil _)) (all_nil _)
theorem alcohol_Strength.eq : ∀ (x : TT [.leaf .slice, .agg [.int .i64, .int .i64]]) (h : H), evalFn Try.prog (alcohol_Strength.tc) alcohol_Strength.A Try.f23 (.many [.leaf (.int .i64), .leaf (.int .i64)]) (TT.un [.leaf .slice, .agg [.int .i64, .int .i64]] x) h = alcohol_Strength x.1 x.2 h := by
  intro x h
  kernel_rfl
noncomputable def alcohol_Strength.e : Entry := mkX [.leaf .slice, .agg [.int .i64, .int .i64]] (.many [.leaf (.int .i64), .leaf (.int .i64)]) fun x h => alcohol_Strength x.1 x.2 h
theorem alcohol_Strength.ok : EntryOK Try.prog 23 (alcohol_Strength.e) := mkX_ok (alcohol_Strength.tcok) Try.mixed Try.func23 (by kernel_rfl) (alcohol_Strength.eq)
noncomputable def alcohol_StrengthP (a0 : (List (Int × Int))) (a1 : (Int × Int)) : Option (Int × Int) := (alcohol_Strength (rowSV false [.int .i64, .int .i64] a0) a1 H.empty).bind fun p => rdRes false p.2 (.many [.leaf (.int .i64), .leaf (.int .i64)]) (Res.un (.many [.leaf (.int .i64), .leaf (.int .i64)]) p.1)
theorem alcohol_StrengthP.eq : ∀ x : TT [.leaf (.row [.int .i64, .int .i64]), .agg [.int .i64, .int .i64]], ((evalFn Try.prog (alcohol_Strength.tc) alcohol_Strength.A Try.f23 (.many [.leaf (.int .i64), .leaf (.int .i64)]) (TT.lo false [.leaf (.row [.int .i64, .int .i64]), .agg [.int .i64, .int .i64]] x) H.empty).bind fun p => rdRes false p.2 (.many [.leaf (.int .i64), .leaf (.int .i64)]) (Res.un (.many [.leaf (.int .i64), .leaf (.int .i64)]) p.1)) = alcohol_StrengthP x.1 x.2 := by
  intro x
  rw [show TT.lo false [.leaf (.row [.int .i64, .int .i64]), .agg [.int .i64, .int .i64]] x = TT.un [.leaf .slice, .agg [.int .i64, .int .i64]] ((rowSV false [.int .i64, .int .i64] x.1), x.2) from rfl, alcohol_Strength.eq]
  rfl
noncomputable def alcohol_StrengthP.e : Entry := mkP [.leaf (.row [.int .i64, .int .i64]), .agg [.int .i64, .int .i64]] (.many [.leaf (.int .i64), .leaf (.int .i64)]) fun x => alcohol_StrengthP x.1 x.2
theorem alcohol_StrengthP.ok : EntryOK Try.prog 23 (alcohol_StrengthP.e) := mkP_ok (alcohol_Strength.tcok) Try.mixed Try.func23 (by kernel_rfl) alcohol_StrengthP.eq

/-! ### spile/alcohol.Volume: function 38 -/
noncomputable def alcohol_Volume.tb : Table := tab [(23, alcohol_StrengthP.e), (44, alcohol_ofP.e)] [] Table.nil
theorem alcohol_Volume.tbok : TabOK Try.prog (alcohol_Volume.tb) := TabOK.tab (TabOK.nil Try.prog) (all_cons alcohol_StrengthP.ok (all_cons alcohol_ofP.ok (all_nil _))) (all_nil _)
noncomputable def alcohol_Volume (a0 : SV) (a1 : (Int × Int)) (h : H) : Option ((Int × Int) × H) :=
(match a1 with
| (a1_0, a1_1) =>
(let h1 : H := H.new h [.int .i64 a1_0, .int .i64 a1_1] 2
((rdT (.agg [.int .i64, .int .i64]) h1 (.hp h.next 2 0)).bind fun (x2_0, x2_1) =>
((rdRow true h1 [.int .i64, .int .i64] a0).bind fun s5 =>
((alcohol_StrengthP s5 (x2_0, x2_1)).bind fun (r3, r4) =>
(bif (!(decide (r4 = 0))) then (some ((0, r4), h1)) else (let h6 : H := H.reserve h1 0
((rdT (.leaf (.int .i64)) h6 (.hp h.next 2 1)).bind fun x7 =>
((rdRow true h6 [.int .i64, .int .i64] a0).bind fun s9 =>
((alcohol_ofP s9 r3).bind fun r8 =>
(guardO (r8 ≠ 0) (some (((IntKind.wrap .i64 (Int.tdiv x7 r8)), 0), h6)))))))))))))
def alcohol_Volume.A : Ann := { lits := [], conds := [], loops := [], regs := [] }
theorem alcohol_Volume.eq : ∀ (x : TT [.leaf .slice, .agg [.int .i64, .int .i64]]) (h : H), evalFn Try.prog (alcohol_Volume.tb) alcohol_Volume.A Try.f38 (.many [.leaf (.int .i64), .leaf (.int .i64)]) (TT.un [.leaf .slice, .agg [.int .i64, .int .i64]] x) h = alcohol_Volume x.1 x.2 h := by
  intro x h
  kernel_rfl
noncomputable def alcohol_Volume.e : Entry := mkX [.leaf .slice, .agg [.int .i64, .int .i64]] (.many [.leaf (.int .i64), .leaf (.int .i64)]) fun x h => alcohol_Volume x.1 x.2 h
theorem alcohol_Volume.ok : EntryOK Try.prog 38 (alcohol_Volume.e) := mkX_ok (alcohol_Volume.tbok) Try.mixed Try.func38 (by kernel_rfl) (alcohol_Volume.eq)
noncomputable def alcohol_VolumeP (a0 : (List (Int × Int))) (a1 : (Int × Int)) : Option (Int × Int) := (alcohol_Volume (rowSV false [.int .i64, .int .i64] a0) a1 H.empty).bind fun p => rdRes false p.2 (.many [.leaf (.int .i64), .leaf (.int .i64)]) (Res.un (.many [.leaf (.int .i64), .leaf (.int .i64)]) p.1)
theorem alcohol_VolumeP.eq : ∀ x : TT [.leaf (.row [.int .i64, .int .i64]), .agg [.int .i64, .int .i64]], ((evalFn Try.prog (alcohol_Volume.tb) alcohol_Volume.A Try.f38 (.many [.leaf (.int .i64), .leaf (.int .i64)]) (TT.lo false [.leaf (.row [.int .i64, .int .i64]), .agg [.int .i64, .int .i64]] x) H.empty).bind fun p => rdRes false p.2 (.many [.leaf (.int .i64), .leaf (.int .i64)]) (Res.un (.many [.leaf (.int .i64), .leaf (.int .i64)]) p.1)) = alcohol_VolumeP x.1 x.2 := by
  intro x
  rw [show TT.lo false [.leaf (.row [.int .i64, .int .i64]), .agg [.int .i64, .int .i64]] x = TT.un [.leaf .slice, .agg [.int .i64, .int .i64]] ((rowSV false [.int .i64, .int .i64] x.1), x.2) from rfl, alcohol_Volume.eq]
  rfl
noncomputable def alcohol_VolumeP.e : Entry := mkP [.leaf (.row [.int .i64, .int .i64]), .agg [.int .i64, .int .i64]] (.many [.leaf (.int .i64), .leaf (.int .i64)]) fun x => alcohol_VolumeP x.1 x.2
theorem alcohol_VolumeP.ok : EntryOK Try.prog 38 (alcohol_VolumeP.e) := mkP_ok (alcohol_Volume.tbok) Try.mixed Try.func38 (by kernel_rfl) alcohol_VolumeP.eq

/-! ### spile/mix.Contraction: function 19 -/
noncomputable def mix_Contraction.tb : Table := tab [(37, mix_mixtureP.e), (38, alcohol_VolumeP.e)] [] Table.nil
theorem mix_Contraction.tbok : TabOK Try.prog (mix_Contraction.tb) := TabOK.tab (TabOK.nil Try.prog) (all_cons mix_mixtureP.ok (all_cons alcohol_VolumeP.ok (all_nil _))) (all_nil _)
noncomputable def mix_Contraction.loop1 (a0 : SV) (a1 : SV) : (Int × Int) × H → Option (Stp ((Int × Int) × H) (Flow (Int) (Int × Int) × H)) := fun ((y11, y12), h13) =>
(bif (decide (y12 < ((a1.len : Nat) : Int))) then (guardO (0 ≤ y12 ∧ y12 < ((a1.len : Nat) : Int)) ((rdT (.agg [.int .i64, .int .i64]) h13 (V.add a1.a (Int.toNat y12 * 2))).bind fun (x14_0, x14_1) =>
(let h15 : H := H.new h13 [.int .i64 0, .int .i64 0] 2
((H.wrs h15 (.hp h13.next 2 0) [.int .i64 x14_0, .int .i64 x14_1]).bind fun h16 =>
((rdT (.agg [.int .i64, .int .i64]) h16 (.hp h13.next 2 0)).bind fun (x17_0, x17_1) =>
((rdRow true h16 [.int .i64, .int .i64] a0).bind fun s20 =>
((alcohol_VolumeP s20 (x17_0, x17_1)).bind fun (r18, r19) =>
(some (.more (((IntKind.wrap .i64 (y11 + r18)), (IntKind.wrap .i64 (y12 + 1))), h16)))))))))) else (some (.done (.ex0 y11, h13))))
noncomputable def mix_Contraction (a0 : SV) (a1 : SV) (h : H) : Option ((Int × Int) × H) :=
((rdRow true h [.int .i64, .int .i64] a0).bind fun s3 =>
((rdRow true h [.int .i64, .int .i64] a1).bind fun s4 =>
((mix_mixtureP s3 s4).bind fun ((r1_0, r1_1), r2) =>
(let h5 : H := H.new h [.int .i64 0, .int .i64 0] 2
((H.wrs h5 (.hp h.next 2 0) [.int .i64 r1_0, .int .i64 r1_1]).bind fun h6 =>
(bif (!(decide (r2 = 0))) then (some ((0, r2), h6)) else ((rdT (.agg [.int .i64, .int .i64]) h6 (.hp h.next 2 0)).bind fun (x7_0, x7_1) =>
((rdRow true h6 [.int .i64, .int .i64] a0).bind fun s10 =>
((alcohol_VolumeP s10 (x7_0, x7_1)).bind fun (r8, r9) =>
((iter FUEL (mix_Contraction.loop1 a0 a1) (((IntKind.wrap .i64 (0 - r8)), 0), h6)).bind fun (fl22, h21) => match fl22 with
| .next _ => none
| .ret rr23 => (some (rr23, h21))
| .ex0 y24 =>
(some ((y24, 0), h21))
| .ex1 _ => none))))))))))
def mix_Contraction.A : Ann := { lits := [], conds := [], loops := [(7, [10, 34], [.leaf (.int .i64), .leaf (.int .i64)], [10], [.leaf (.int .i64)], some 0, none)], regs := [] }
theorem mix_Contraction.eq : ∀ (x : TT [.leaf .slice, .leaf .slice]) (h : H), evalFn Try.prog (mix_Contraction.tb) mix_Contraction.A Try.f19 (.many [.leaf (.int .i64), .leaf (.int .i64)]) (TT.un [.leaf .slice, .leaf .slice] x) h = mix_Contraction x.1 x.2 h := by
  intro x h
  kernel_rfl
noncomputable def mix_Contraction.e : Entry := mkX [.leaf .slice, .leaf .slice] (.many [.leaf (.int .i64), .leaf (.int .i64)]) fun x h => mix_Contraction x.1 x.2 h
theorem mix_Contraction.ok : EntryOK Try.prog 19 (mix_Contraction.e) := mkX_ok (mix_Contraction.tbok) Try.mixed Try.func19 (by kernel_rfl) (mix_Contraction.eq)
noncomputable def mix_ContractionP (a0 : (List (Int × Int))) (a1 : (List (Int × Int))) : Option (Int × Int) := (mix_Contraction (rowSV false [.int .i64, .int .i64] a0) (rowSV false [.int .i64, .int .i64] a1) H.empty).bind fun p => rdRes false p.2 (.many [.leaf (.int .i64), .leaf (.int .i64)]) (Res.un (.many [.leaf (.int .i64), .leaf (.int .i64)]) p.1)
theorem mix_ContractionP.eq : ∀ x : TT [.leaf (.row [.int .i64, .int .i64]), .leaf (.row [.int .i64, .int .i64])], ((evalFn Try.prog (mix_Contraction.tb) mix_Contraction.A Try.f19 (.many [.leaf (.int .i64), .leaf (.int .i64)]) (TT.lo false [.leaf (.row [.int .i64, .int .i64]), .leaf (.row [.int .i64, .int .i64])] x) H.empty).bind fun p => rdRes false p.2 (.many [.leaf (.int .i64), .leaf (.int .i64)]) (Res.un (.many [.leaf (.int .i64), .leaf (.int .i64)]) p.1)) = mix_ContractionP x.1 x.2 := by
  intro x
  rw [show TT.lo false [.leaf (.row [.int .i64, .int .i64]), .leaf (.row [.int .i64, .int .i64])] x = TT.un [.leaf .slice, .leaf .slice] ((rowSV false [.int .i64, .int .i64] x.1), (rowSV false [.int .i64, .int .i64] x.2)) from rfl, mix_Contraction.eq]
  rfl
noncomputable def mix_ContractionP.e : Entry := mkP [.leaf (.row [.int .i64, .int .i64]), .leaf (.row [.int .i64, .int .i64])] (.many [.leaf (.int .i64), .leaf (.int .i64)]) fun x => mix_ContractionP x.1 x.2
theorem mix_ContractionP.ok : EntryOK Try.prog 19 (mix_ContractionP.e) := mkP_ok (mix_Contraction.tbok) Try.mixed Try.func19 (by kernel_rfl) mix_ContractionP.eq

/-! ### spile/mix.Between: function 21 -/
noncomputable def mix_Between.tb : Table := tab [(23, alcohol_StrengthP.e), (37, mix_mixtureP.e)] [] Table.nil
theorem mix_Between.tbok : TabOK Try.prog (mix_Between.tb) := TabOK.tab (TabOK.nil Try.prog) (all_cons alcohol_StrengthP.ok (all_cons mix_mixtureP.ok (all_nil _))) (all_nil _)
noncomputable def mix_Between.loop1 (a0 : SV) (a1 : SV) (h7 : H) : (Int) × H → Option (Stp ((Int) × H) (Flow (Unit) ((Int × Int) × Int × Int) × H)) := fun (y15, h16) =>
(bif (decide (y15 < ((a1.len : Nat) : Int))) then (guardO (0 ≤ y15 ∧ y15 < ((a1.len : Nat) : Int)) ((rdT (.agg [.int .i64, .int .i64]) h16 (V.add a1.a (Int.toNat y15 * 2))).bind fun (x17_0, x17_1) =>
(let h18 : H := H.new h16 [.int .i64 0, .int .i64 0] 2
((H.wrs h18 (.hp h16.next 2 0) [.int .i64 x17_0, .int .i64 x17_1]).bind fun h19 =>
((rdT (.leaf (.int .i64)) h19 (.hp h16.next 2 1)).bind fun x20 =>
(bif (decide (x20 = 0)) then (some (.more ((IntKind.wrap .i64 (y15 + 1)), h19))) else ((rdT (.agg [.int .i64, .int .i64]) h19 (.hp h16.next 2 0)).bind fun (x21_0, x21_1) =>
((rdRow true h19 [.int .i64, .int .i64] a0).bind fun s24 =>
((alcohol_StrengthP s24 (x21_0, x21_1)).bind fun (r22, r23) =>
((rdT (.leaf (.int .i64)) h19 (.hp h7.next 2 0)).bind fun x25 =>
((rdT (.leaf (.int .i64)) h19 (.hp h7.next 2 1)).bind fun x26 =>
((H.wrs h19 (.hp h7.next 2 0) [.int .i64 (minI r22 x25)]).bind fun h27 =>
((H.wrs h27 (.hp h7.next 2 1) [.int .i64 (maxI r22 x26)]).bind fun h28 =>
(some (.more ((IntKind.wrap .i64 (y15 + 1)), h28)))))))))))))))) else (some (.done (.ex0 (), h16))))
noncomputable def mix_Between (a0 : SV) (a1 : SV) (h : H) : Option (((Int × Int) × Int × Int) × H) :=
(let h1 : H := H.new h [.int .i64 0, .int .i64 0] 2
((rdRow true h1 [.int .i64, .int .i64] a0).bind fun s4 =>
((rdRow true h1 [.int .i64, .int .i64] a1).bind fun s5 =>
((mix_mixtureP s4 s5).bind fun ((r2_0, r2_1), r3) =>
(let h6 : H := H.new h1 [.int .i64 0, .int .i64 0] 2
((H.wrs h6 (.hp h1.next 2 0) [.int .i64 r2_0, .int .i64 r2_1]).bind fun h7 =>
(bif (!(decide (r3 = 0))) then ((H.wrs h7 (.hp h.next 2 0) [.int .i64 0, .int .i64 0]).bind fun h8 =>
((rdT (.agg [.int .i64, .int .i64]) h8 (.hp h.next 2 0 : V)).bind fun (x9_0, x9_1) =>
(some (((x9_0, x9_1), 0, r3), h8)))) else ((rdT (.leaf (.int .i64)) h7 (.hp h1.next 2 1)).bind fun x10 =>
(bif (decide (x10 = 0)) then ((H.wrs h7 (.hp h.next 2 0) [.int .i64 0, .int .i64 0]).bind fun h11 =>
((rdT (.agg [.int .i64, .int .i64]) h11 (.hp h.next 2 0 : V)).bind fun (x12_0, x12_1) =>
(some (((x12_0, x12_1), 0, 9), h11)))) else (let h13 : H := H.new h7 [.int .i64 0, .int .i64 0] 2
((H.wrs h13 (.hp h7.next 2 0) [.int .i64 10000, .int .i64 0]).bind fun h14 =>
((iter FUEL (mix_Between.loop1 a0 a1 h7) (0, h14)).bind fun (fl30, h29) => match fl30 with
| .next _ => none
| .ret rr31 => (some (rr31, h29))
| .ex0 _ =>
((rdT (.agg [.int .i64, .int .i64]) h29 (.hp h1.next 2 0)).bind fun (x32_0, x32_1) =>
((rdRow true h29 [.int .i64, .int .i64] a0).bind fun s35 =>
((alcohol_StrengthP s35 (x32_0, x32_1)).bind fun (r33, r34) =>
((rdT (.agg [.int .i64, .int .i64]) h29 (.hp h7.next 2 0)).bind fun (x36_0, x36_1) =>
((H.wrs h29 (.hp h.next 2 0) [.int .i64 x36_0, .int .i64 x36_1]).bind fun h37 =>
((rdT (.agg [.int .i64, .int .i64]) h37 (.hp h.next 2 0 : V)).bind fun (x38_0, x38_1) =>
(some (((x38_0, x38_1), r33, 0), h37))))))))
| .ex1 _ => none))))))))))))
def mix_Between.A : Ann := { lits := [], conds := [], loops := [(8, [35], [.leaf (.int .i64)], [], [], some 1, none)], regs := [] }
theorem mix_Between.eq : ∀ (x : TT [.leaf .slice, .leaf .slice]) (h : H), evalFn Try.prog (mix_Between.tb) mix_Between.A Try.f21 (.many [.agg [.int .i64, .int .i64], .leaf (.int .i64), .leaf (.int .i64)]) (TT.un [.leaf .slice, .leaf .slice] x) h = mix_Between x.1 x.2 h := by
  intro x h
  kernel_rfl
noncomputable def mix_Between.e : Entry := mkX [.leaf .slice, .leaf .slice] (.many [.agg [.int .i64, .int .i64], .leaf (.int .i64), .leaf (.int .i64)]) fun x h => mix_Between x.1 x.2 h
theorem mix_Between.ok : EntryOK Try.prog 21 (mix_Between.e) := mkX_ok (mix_Between.tbok) Try.mixed Try.func21 (by kernel_rfl) (mix_Between.eq)
noncomputable def mix_BetweenP (a0 : (List (Int × Int))) (a1 : (List (Int × Int))) : Option ((Int × Int) × Int × Int) := (mix_Between (rowSV false [.int .i64, .int .i64] a0) (rowSV false [.int .i64, .int .i64] a1) H.empty).bind fun p => rdRes false p.2 (.many [.agg [.int .i64, .int .i64], .leaf (.int .i64), .leaf (.int .i64)]) (Res.un (.many [.agg [.int .i64, .int .i64], .leaf (.int .i64), .leaf (.int .i64)]) p.1)
theorem mix_BetweenP.eq : ∀ x : TT [.leaf (.row [.int .i64, .int .i64]), .leaf (.row [.int .i64, .int .i64])], ((evalFn Try.prog (mix_Between.tb) mix_Between.A Try.f21 (.many [.agg [.int .i64, .int .i64], .leaf (.int .i64), .leaf (.int .i64)]) (TT.lo false [.leaf (.row [.int .i64, .int .i64]), .leaf (.row [.int .i64, .int .i64])] x) H.empty).bind fun p => rdRes false p.2 (.many [.agg [.int .i64, .int .i64], .leaf (.int .i64), .leaf (.int .i64)]) (Res.un (.many [.agg [.int .i64, .int .i64], .leaf (.int .i64), .leaf (.int .i64)]) p.1)) = mix_BetweenP x.1 x.2 := by
  intro x
  rw [show TT.lo false [.leaf (.row [.int .i64, .int .i64]), .leaf (.row [.int .i64, .int .i64])] x = TT.un [.leaf .slice, .leaf .slice] ((rowSV false [.int .i64, .int .i64] x.1), (rowSV false [.int .i64, .int .i64] x.2)) from rfl, mix_Between.eq]
  rfl
noncomputable def mix_BetweenP.e : Entry := mkP [.leaf (.row [.int .i64, .int .i64]), .leaf (.row [.int .i64, .int .i64])] (.many [.agg [.int .i64, .int .i64], .leaf (.int .i64), .leaf (.int .i64)]) fun x => mix_BetweenP x.1 x.2
theorem mix_BetweenP.ok : EntryOK Try.prog 21 (mix_BetweenP.e) := mkP_ok (mix_Between.tbok) Try.mixed Try.func21 (by kernel_rfl) mix_BetweenP.eq

/-! ### spile/spilelaw21.awake: function 10 -/
noncomputable def spilelaw21_awake.tb : Table := tab [(13, mix_DrawP.e), (15, mix_DivideP.e), (19, mix_ContractionP.e), (21, mix_BetweenP.e)] [] Table.nil
theorem spilelaw21_awake.tbok : TabOK Try.prog (spilelaw21_awake.tb) := TabOK.tab (TabOK.nil Try.prog) (all_cons mix_DrawP.ok (all_cons mix_DivideP.ok (all_cons mix_ContractionP.ok (all_cons mix_BetweenP.ok (all_nil _))))) (all_nil _)
noncomputable def spilelaw21_awake (h : H) : Option ((Bool) × H) :=
((mix_DrawP (1000, 300) 100).bind fun ((r1_0, r1_1), (r2_0, r2_1), r3) =>
(let h4 : H := H.new h [.int .i64 0, .int .i64 0] 2
(let h5 : H := H.new h4 [.int .i64 0, .int .i64 0] 2
((H.wrs h5 (.hp h.next 2 0) [.int .i64 r1_0, .int .i64 r1_1]).bind fun h6 =>
((H.wrs h6 (.hp h4.next 2 0) [.int .i64 r2_0, .int .i64 r2_1]).bind fun h7 =>
((rdRow true h7 [.int .i64] ⟨.lp true ([.int .i64 1, .int .i64 2]) 0, 2, 2, false⟩).bind fun s10 =>
((mix_DivideP (1000, 300) s10).bind fun (r8, r9) =>
((rdRow true h7 [.int .i64, .int .i64] ⟨.lp true ([.int .i64 0, .int .i64 100000, .int .i64 10000, .int .i64 80000]) 0, 2, 2, false⟩).bind fun s13 =>
((rdRow true h7 [.int .i64, .int .i64] ⟨.lp true ([.int .i64 0, .int .i64 10000000, .int .i64 1000000, .int .i64 8000000]) 0, 2, 2, false⟩).bind fun s14 =>
((mix_ContractionP s13 s14).bind fun (r11, r12) =>
((rdRow true h7 [.int .i64, .int .i64] ⟨.lp true ([.int .i64 0, .int .i64 100000, .int .i64 10000, .int .i64 80000]) 0, 2, 2, false⟩).bind fun s18 =>
((rdRow true h7 [.int .i64, .int .i64] ⟨.lp true ([.int .i64 0, .int .i64 10000000, .int .i64 1000000, .int .i64 8000000]) 0, 2, 2, false⟩).bind fun s19 =>
((mix_BetweenP s18 s19).bind fun ((r15_0, r15_1), r16, r17) =>
(let h20 : H := H.new h7 [.int .i64 0, .int .i64 0] 2
((H.wrs h20 (.hp h7.next 2 0) [.int .i64 r15_0, .int .i64 r15_1]).bind fun h21 =>
(((let h22 : H := H.reserve h21 0
(bif (decide (r3 = 0)) then ((rdT (.agg [.int .i64, .int .i64]) h22 (.hp h.next 2 0)).bind fun (x23_0, x23_1) =>
(bif (decide (x23_0 = 333) && (decide (x23_1 = 100))) then ((rdT (.agg [.int .i64, .int .i64]) h22 (.hp h4.next 2 0)).bind fun (x24_0, x24_1) =>
(bif (decide (x24_0 = 667) && (decide (x24_1 = 200))) then (bif (decide (r9 = 0)) then (bif (decide (((r8.length : Nat) : Int) = 2)) then (guardO (0 ≤ (1 : Int) ∧ 1 < ((r8.length : Nat) : Int)) ((rdT (.agg [.int .i64, .int .i64]) h22 (V.add ((rowSV true [.int .i64, .int .i64] r8).a) 2)).bind fun (x25_0, x25_1) =>
((rdT (.agg [.int .i64, .int .i64]) h22 (.hp h4.next 2 0)).bind fun (x26_0, x26_1) =>
(bif (decide (x25_0 = x26_0) && (decide (x25_1 = x26_1))) then (bif (decide (r12 = 0)) then (bif (decide (r11 = 0)) then (bif (decide (r17 = 0)) then ((rdT (.agg [.int .i64, .int .i64]) h22 (.hp h7.next 2 0)).bind fun (x27_0, x27_1) =>
(bif (decide (x27_0 = 0) && (decide (x27_1 = 10000))) then (some ((decide (r16 = 5000)), h22)) else (some (false, h22)))) else (some (false, h22))) else (some (false, h22))) else (some (false, h22))) else (some (false, h22)))))) else (some (false, h22))) else (some (false, h22))) else (some (false, h22)))) else (some (false, h22)))) else (some (false, h22))))).bind fun (y28, h29) =>
(some (y28, h29))))))))))))))))))
def spilelaw21_awake.A : Ann := { lits := [], conds := [], loops := [], regs := [(7, [0], [.leaf .bool])] }
theorem spilelaw21_awake.eq : ∀ (x : TT []) (h : H), evalFn Try.prog (spilelaw21_awake.tb) spilelaw21_awake.A Try.f10 (.one (.leaf .bool)) (TT.un [] x) h = spilelaw21_awake  h := by
  intro x h
  kernel_rfl
noncomputable def spilelaw21_awake.e : Entry := mkX [] (.one (.leaf .bool)) fun x h => spilelaw21_awake  h
theorem spilelaw21_awake.ok : EntryOK Try.prog 10 (spilelaw21_awake.e) := mkX_ok (spilelaw21_awake.tbok) Try.mixed Try.func10 (by kernel_rfl) (spilelaw21_awake.eq)
noncomputable def spilelaw21_awakeP : Option (Bool) := (spilelaw21_awake H.empty).bind fun p => rdRes false p.2 (.one (.leaf .bool)) (Res.un (.one (.leaf .bool)) p.1)
theorem spilelaw21_awakeP.eq : ∀ x : TT [], ((evalFn Try.prog (spilelaw21_awake.tb) spilelaw21_awake.A Try.f10 (.one (.leaf .bool)) (TT.lo false [] x) H.empty).bind fun p => rdRes false p.2 (.one (.leaf .bool)) (Res.un (.one (.leaf .bool)) p.1)) = spilelaw21_awakeP  := by
  intro x
  rw [show TT.lo false [] x = TT.un [] () from rfl, spilelaw21_awake.eq]
  rfl
noncomputable def spilelaw21_awakeP.e : Entry := mkP [] (.one (.leaf .bool)) fun x => spilelaw21_awakeP 
theorem spilelaw21_awakeP.ok : EntryOK Try.prog 10 (spilelaw21_awakeP.e) := mkP_ok (spilelaw21_awake.tbok) Try.mixed Try.func10 (by kernel_rfl) spilelaw21_awakeP.eq

/-! ### spile/spileref21.Plain: function 30 -/
noncomputable def spileref21_Plain.tb : Table := tab [] [] Table.nil
theorem spileref21_Plain.tbok : TabOK Try.prog (spileref21_Plain.tb) := TabOK.tab (TabOK.nil Try.prog) (all_nil _) (all_nil _)
noncomputable def spileref21_Plain (a0 : (Int × Int)) (h : H) : Option ((Bool) × H) :=
(match a0 with
| (a0_0, a0_1) =>
(let h1 : H := H.new h [.int .i64 a0_0, .int .i64 a0_1] 2
((((rdT (.leaf (.int .i64)) h1 (.hp h.next 2 0)).bind fun x2 =>
(bif (decide ((0 : Int) ≤ x2)) then ((rdT (.leaf (.int .i64)) h1 (.hp h.next 2 0)).bind fun x3 =>
(bif (decide (x3 ≤ 10737418240000)) then ((rdT (.leaf (.int .i64)) h1 (.hp h.next 2 1)).bind fun x4 =>
(bif (decide ((0 : Int) ≤ x4)) then ((rdT (.leaf (.int .i64)) h1 (.hp h.next 2 1)).bind fun x5 =>
(bif (decide (x5 ≤ 128849018880000)) then ((rdT (.leaf (.int .i64)) h1 (.hp h.next 2 1)).bind fun x6 =>
(bif !(decide ((0 : Int) < x6)) then ((rdT (.leaf (.int .i64)) h1 (.hp h.next 2 0)).bind fun x7 =>
(some ((decide (x7 = 0)), h1))) else (some (true, h1)))) else (some (false, h1)))) else (some (false, h1)))) else (some (false, h1)))) else (some (false, h1))))).bind fun (y8, h9) =>
(some (y8, h9)))))
def spileref21_Plain.A : Ann := { lits := [], conds := [], loops := [], regs := [(1, [2], [.leaf .bool])] }
theorem spileref21_Plain.eq : ∀ (x : TT [.agg [.int .i64, .int .i64]]) (h : H), evalFn Try.prog (spileref21_Plain.tb) spileref21_Plain.A Try.f30 (.one (.leaf .bool)) (TT.un [.agg [.int .i64, .int .i64]] x) h = spileref21_Plain x h := by
  intro x h
  kernel_rfl
noncomputable def spileref21_Plain.e : Entry := mkX [.agg [.int .i64, .int .i64]] (.one (.leaf .bool)) fun x h => spileref21_Plain x h
theorem spileref21_Plain.ok : EntryOK Try.prog 30 (spileref21_Plain.e) := mkX_ok (spileref21_Plain.tbok) Try.mixed Try.func30 (by kernel_rfl) (spileref21_Plain.eq)
noncomputable def spileref21_PlainP (a0 : (Int × Int)) : Option (Bool) := (spileref21_Plain a0 H.empty).bind fun p => rdRes false p.2 (.one (.leaf .bool)) (Res.un (.one (.leaf .bool)) p.1)
theorem spileref21_PlainP.eq : ∀ x : TT [.agg [.int .i64, .int .i64]], ((evalFn Try.prog (spileref21_Plain.tb) spileref21_Plain.A Try.f30 (.one (.leaf .bool)) (TT.lo false [.agg [.int .i64, .int .i64]] x) H.empty).bind fun p => rdRes false p.2 (.one (.leaf .bool)) (Res.un (.one (.leaf .bool)) p.1)) = spileref21_PlainP x := by
  intro x
  rw [show TT.lo false [.agg [.int .i64, .int .i64]] x = TT.un [.agg [.int .i64, .int .i64]] (x) from rfl, spileref21_Plain.eq]
  rfl
noncomputable def spileref21_PlainP.e : Entry := mkP [.agg [.int .i64, .int .i64]] (.one (.leaf .bool)) fun x => spileref21_PlainP x
theorem spileref21_PlainP.ok : EntryOK Try.prog 30 (spileref21_PlainP.e) := mkP_ok (spileref21_Plain.tbok) Try.mixed Try.func30 (by kernel_rfl) spileref21_PlainP.eq
end Go.Proofs.Ytaepkinihaipkaa
