/- The functions of the program as Lean functions, each with the equation by which the evaluator is that function. Written by a program of this session (evdrive.py). Conditions: none. -/
import Derived.Test.YtfkabibbaajfhaaProg
import Derived.Test.YtfkabibbaajfhaaEvSpec

namespace Go.Proofs.Ytfkabibbaajfhaa
open Go Go.Proofs.Ytfkabibbaajfhaa.Ev
set_option maxRecDepth 100000
set_option linter.unusedVariables false
theorem Try.mixed : Try.prog.follows .mixedOrders = true := by kernel_rfl
/-! ### slices.Clone[[]int,int]: function 13 -/
noncomputable def slices_Clone_int_int.tb : Table := tab [] [] Table.nil
theorem slices_Clone_int_int.tbok : TabOK Try.prog (slices_Clone_int_int.tb) := TabOK.tab (TabOK.nil Try.prog) (all_nil _) (all_nil _)
noncomputable def slices_Clone_int_int (a0 : SV) (h : H) : Option ((SV) × H) :=
(bif !(V.mayNil (a0.a : V)) then (bif (!(V.nn (a0.a : V))) then (some (⟨.nil, 0, 0, false⟩, h)) else ((cellsOf h (.slice a0.a a0.len a0.cap a0.tail : V) 1).bind fun (n3, cs3) =>
((appendS h none 1 8 (⟨.lp true ([]) 0, 0, 0, false⟩) cs3 n3).bind fun (s3, h2) =>
(some (s3, h2))))) else none)
def slices_Clone_int_int.A : Ann := { lits := [], conds := [], loops := [], regs := [] }
theorem slices_Clone_int_int.eq : ∀ (x : TT [.leaf .slice]) (h : H), evalFn Try.prog (slices_Clone_int_int.tb) slices_Clone_int_int.A Try.f13 (.one (.leaf .slice)) (TT.un [.leaf .slice] x) h = slices_Clone_int_int x h := by
  intro x h
  kernel_rfl
noncomputable def slices_Clone_int_int.e : Entry := mkX [.leaf .slice] (.one (.leaf .slice)) (cloneX 1 8)
theorem slices_Clone_int_int.ok : EntryOK Try.prog 13 slices_Clone_int_int.e := cloneX_ok (g := slices_Clone_int_int) (mkX_ok (slices_Clone_int_int.tbok) Try.mixed Try.func13 (by kernel_rfl) (slices_Clone_int_int.eq)) (fun s h => by kernel_rfl)
noncomputable def slices_Clone_int_intP.e : Entry := mkP [.leaf (.row [.int .i64])] (.one (.leaf (.row [.int .i64]))) (cloneP 8)
theorem slices_Clone_int_intP.ok : EntryOK Try.prog 13 slices_Clone_int_intP.e := cloneP_ok slices_Clone_int_int.ok rfl (by omega) rfl

/-! ### spile/density.fault: function 70 -/
noncomputable def density_fault.tb : Table := tab [] [] Table.nil
theorem density_fault.tbok : TabOK Try.prog (density_fault.tb) := TabOK.tab (TabOK.nil Try.prog) (all_nil _) (all_nil _)
noncomputable def density_fault (a0 : SV) (a1 : Int) (h : H) : Option ((Int) × H) :=
(guardO (0 ≤ a1 ∧ a1 < ((a0.len : Nat) : Int)) ((rdT (.agg [.int .i64, .int .i64]) h (V.add a0.a (Int.toNat a1 * 2))).bind fun (x1_0, x1_1) =>
(let h2 : H := H.new h [.int .i64 0, .int .i64 0] 2
((H.wrs h2 (.hp h.next 2 0) [.int .i64 x1_0, .int .i64 x1_1]).bind fun h3 =>
((((rdT (.leaf (.int .i64)) h3 (.hp h.next 2 0)).bind fun x4 =>
(bif !(decide (x4 < 0)) then ((rdT (.leaf (.int .i64)) h3 (.hp h.next 2 0)).bind fun x5 =>
(bif !(decide ((10000 : Int) < x5)) then ((rdT (.leaf (.int .i64)) h3 (.hp h.next 2 1)).bind fun x6 =>
(bif !(decide (x6 < 50000)) then ((rdT (.leaf (.int .i64)) h3 (.hp h.next 2 1)).bind fun x7 =>
(some ((decide ((120000 : Int) < x7)), h3))) else (some (true, h3)))) else (some (true, h3)))) else (some (true, h3))))).bind fun (y8, h9) =>
(bif y8 then (some (2, h9)) else (((let h10 : H := H.reserve h9 0
(bif (decide ((0 : Int) < a1)) then ((rdT (.leaf (.int .i64)) h10 (.hp h.next 2 0)).bind fun x11 =>
(guardO (0 ≤ (IntKind.wrap .i64 (a1 - 1)) ∧ (IntKind.wrap .i64 (a1 - 1)) < ((a0.len : Nat) : Int)) (guardO (V.nn ((V.add a0.a (Int.toNat (IntKind.wrap .i64 (a1 - 1)) * 2)) : V) = true) ((rdT (.leaf (.int .i64)) h10 (V.add (V.add a0.a (Int.toNat (IntKind.wrap .i64 (a1 - 1)) * 2)) 0)).bind fun x12 =>
(some ((decide (x11 ≤ x12)), h10)))))) else (some (false, h10))))).bind fun (y13, h14) =>
(bif y13 then (some (5, h14)) else (((let h15 : H := H.reserve h14 0
(bif (decide ((0 : Int) < a1)) then ((rdT (.leaf (.int .i64)) h15 (.hp h.next 2 1)).bind fun x16 =>
(guardO (0 ≤ (IntKind.wrap .i64 (a1 - 1)) ∧ (IntKind.wrap .i64 (a1 - 1)) < ((a0.len : Nat) : Int)) (guardO (V.nn ((V.add a0.a (Int.toNat (IntKind.wrap .i64 (a1 - 1)) * 2)) : V) = true) ((rdT (.leaf (.int .i64)) h15 (V.add (V.add a0.a (Int.toNat (IntKind.wrap .i64 (a1 - 1)) * 2)) 1)).bind fun x17 =>
(some ((decide (x17 < x16)), h15)))))) else (some (false, h15))))).bind fun (y18, h19) =>
(bif y18 then (some (18, h19)) else (some (0, h19))))))))))))
def density_fault.A : Ann := { lits := [], conds := [], loops := [], regs := [(2, [10], [.leaf .bool]), (4, [29], [.leaf .bool]), (6, [43], [.leaf .bool])] }
theorem density_fault.eq : ∀ (x : TT [.leaf .slice, .leaf (.int .i64)]) (h : H), evalFn Try.prog (density_fault.tb) density_fault.A Try.f70 (.one (.leaf (.int .i64))) (TT.un [.leaf .slice, .leaf (.int .i64)] x) h = density_fault x.1 x.2 h := by
  intro x h
  kernel_rfl
noncomputable def density_fault.e : Entry := mkX [.leaf .slice, .leaf (.int .i64)] (.one (.leaf (.int .i64))) fun x h => density_fault x.1 x.2 h
theorem density_fault.ok : EntryOK Try.prog 70 (density_fault.e) := mkX_ok (density_fault.tbok) Try.mixed Try.func70 (by kernel_rfl) (density_fault.eq)
noncomputable def density_faultP (a0 : (List (Int × Int))) (a1 : Int) : Option (Int) := (density_fault (rowSV false [.int .i64, .int .i64] a0) a1 H.empty).bind fun p => rdRes false p.2 (.one (.leaf (.int .i64))) (Res.un (.one (.leaf (.int .i64))) p.1)
theorem density_faultP.eq : ∀ x : TT [.leaf (.row [.int .i64, .int .i64]), .leaf (.int .i64)], ((evalFn Try.prog (density_fault.tb) density_fault.A Try.f70 (.one (.leaf (.int .i64))) (TT.lo false [.leaf (.row [.int .i64, .int .i64]), .leaf (.int .i64)] x) H.empty).bind fun p => rdRes false p.2 (.one (.leaf (.int .i64))) (Res.un (.one (.leaf (.int .i64))) p.1)) = density_faultP x.1 x.2 := by
  intro x
  rw [show TT.lo false [.leaf (.row [.int .i64, .int .i64]), .leaf (.int .i64)] x = TT.un [.leaf .slice, .leaf (.int .i64)] ((rowSV false [.int .i64, .int .i64] x.1), x.2) from rfl, density_fault.eq]
  rfl
noncomputable def density_faultP.e : Entry := mkP [.leaf (.row [.int .i64, .int .i64]), .leaf (.int .i64)] (.one (.leaf (.int .i64))) fun x => density_faultP x.1 x.2
theorem density_faultP.ok : EntryOK Try.prog 70 (density_faultP.e) := mkP_ok (density_fault.tbok) Try.mixed Try.func70 (by kernel_rfl) density_faultP.eq

/-! ### spile/density.Check: function 36 -/
noncomputable def density_Check.tb : Table := tab [(70, density_faultP.e)] [] Table.nil
theorem density_Check.tbok : TabOK Try.prog (density_Check.tb) := TabOK.tab (TabOK.nil Try.prog) (all_cons density_faultP.ok (all_nil _)) (all_nil _)
noncomputable def density_Check.loop1 (a0 : SV) : (Int) × H → Option (Stp ((Int) × H) (Flow (Unit) (Int × Int) × H)) := fun (y1, h2) =>
(bif (decide (y1 < ((a0.len : Nat) : Int))) then ((rdRow true h2 [.int .i64, .int .i64] a0).bind fun s4 =>
((density_faultP s4 y1).bind fun r3 =>
(bif (!(decide (r3 = 0))) then (some (.done (.ret (y1, r3), h2))) else (some (.more ((IntKind.wrap .i64 (y1 + 1)), h2)))))) else (some (.done (.ex0 (), h2))))
noncomputable def density_Check (a0 : SV) (h : H) : Option ((Int × Int) × H) :=
(bif (decide ((128 : Int) < ((a0.len : Nat) : Int))) then (some (((-1), 8), h)) else (bif (decide (((a0.len : Nat) : Int) < 2)) then (some (((-1), 9), h)) else ((iter FUEL (density_Check.loop1 a0) (0, h)).bind fun (fl6, h5) => match fl6 with
| .next _ => none
| .ret rr7 => (some (rr7, h5))
| .ex0 _ =>
(guardO (0 ≤ (0 : Int) ∧ 0 < ((a0.len : Nat) : Int)) (guardO (V.nn ((V.add a0.a 0) : V) = true) ((rdT (.leaf (.int .i64)) h5 (V.add (V.add a0.a 0) 0)).bind fun x8 =>
(bif (!(decide (x8 = 0))) then (some ((0, 10), h5)) else (guardO (0 ≤ (IntKind.wrap .i64 (((a0.len : Nat) : Int) - 1)) ∧ (IntKind.wrap .i64 (((a0.len : Nat) : Int) - 1)) < ((a0.len : Nat) : Int)) (guardO (V.nn ((V.add a0.a (Int.toNat (IntKind.wrap .i64 (((a0.len : Nat) : Int) - 1)) * 2)) : V) = true) ((rdT (.leaf (.int .i64)) h5 (V.add (V.add a0.a (Int.toNat (IntKind.wrap .i64 (((a0.len : Nat) : Int) - 1)) * 2)) 0)).bind fun x9 =>
(bif (!(decide (x9 = 10000))) then (some (((IntKind.wrap .i64 (((a0.len : Nat) : Int) - 1)), 10), h5)) else (some (((-1), 0), h5))))))))))
| .ex1 _ => none)))
def density_Check.A : Ann := { lits := [], conds := [], loops := [(6, [17], [.leaf (.int .i64)], [], [], some 1, none)], regs := [] }
theorem density_Check.eq : ∀ (x : TT [.leaf .slice]) (h : H), evalFn Try.prog (density_Check.tb) density_Check.A Try.f36 (.many [.leaf (.int .i64), .leaf (.int .i64)]) (TT.un [.leaf .slice] x) h = density_Check x h := by
  intro x h
  kernel_rfl
noncomputable def density_Check.e : Entry := mkX [.leaf .slice] (.many [.leaf (.int .i64), .leaf (.int .i64)]) fun x h => density_Check x h
theorem density_Check.ok : EntryOK Try.prog 36 (density_Check.e) := mkX_ok (density_Check.tbok) Try.mixed Try.func36 (by kernel_rfl) (density_Check.eq)
noncomputable def density_CheckP (a0 : (List (Int × Int))) : Option (Int × Int) := (density_Check (rowSV false [.int .i64, .int .i64] a0) H.empty).bind fun p => rdRes false p.2 (.many [.leaf (.int .i64), .leaf (.int .i64)]) (Res.un (.many [.leaf (.int .i64), .leaf (.int .i64)]) p.1)
theorem density_CheckP.eq : ∀ x : TT [.leaf (.row [.int .i64, .int .i64])], ((evalFn Try.prog (density_Check.tb) density_Check.A Try.f36 (.many [.leaf (.int .i64), .leaf (.int .i64)]) (TT.lo false [.leaf (.row [.int .i64, .int .i64])] x) H.empty).bind fun p => rdRes false p.2 (.many [.leaf (.int .i64), .leaf (.int .i64)]) (Res.un (.many [.leaf (.int .i64), .leaf (.int .i64)]) p.1)) = density_CheckP x := by
  intro x
  rw [show TT.lo false [.leaf (.row [.int .i64, .int .i64])] x = TT.un [.leaf .slice] ((rowSV false [.int .i64, .int .i64] x)) from rfl, density_Check.eq]
  rfl
noncomputable def density_CheckP.e : Entry := mkP [.leaf (.row [.int .i64, .int .i64])] (.many [.leaf (.int .i64), .leaf (.int .i64)]) fun x => density_CheckP x
theorem density_CheckP.ok : EntryOK Try.prog 36 (density_CheckP.e) := mkP_ok (density_Check.tbok) Try.mixed Try.func36 (by kernel_rfl) density_CheckP.eq

/-! ### slices.IndexFunc[[]spile/api.Liquid,spile/api.Liquid]: function 75 -/
noncomputable def slices_IndexFunc_api_Liquid_api_Liquid.tb (T : Table) : Table := tab [] [] T
theorem slices_IndexFunc_api_Liquid_api_Liquid.tbok (T : Table) (hT : TabOK Try.prog T) : TabOK Try.prog (slices_IndexFunc_api_Liquid_api_Liquid.tb T) := TabOK.tab (hT) (all_nil _) (all_nil _)
noncomputable def slices_IndexFunc_api_Liquid_api_Liquid.loop1 (T : Table) (a0 : SV) (a1 : V) : (Int) × H → Option (Stp ((Int) × H) (Flow (Unit) (Int) × H)) := fun (y1, h2) =>
(bif (decide (y1 < ((a0.len : Nat) : Int))) then (guardO (0 ≤ y1 ∧ y1 < ((a0.len : Nat) : Int)) ((rdT (.agg [.int .i64, .int .i64]) h2 (V.add a0.a (Int.toNat y1 * 2))).bind fun (x3_0, x3_1) =>
(callV T.dy a1 [.agg [.int .i64 x3_0, .int .i64 x3_1]] h2 fun v4 h5 =>
(Res.pack (.one (.leaf .bool)) v4).bind fun r6 =>
(bif r6 then (some (.done (.ret y1, h5))) else (some (.more ((IntKind.wrap .i64 (y1 + 1)), h5))))))) else (some (.done (.ex0 (), h2))))
noncomputable def slices_IndexFunc_api_Liquid_api_Liquid (T : Table) (a0 : SV) (a1 : V) (h : H) : Option ((Int) × H) :=
((iter FUEL (slices_IndexFunc_api_Liquid_api_Liquid.loop1 T a0 a1) (0, h)).bind fun (fl8, h7) => match fl8 with
| .next _ => none
| .ret rr9 => (some (rr9, h7))
| .ex0 _ =>
(some ((-1), h7))
| .ex1 _ => none)
def slices_IndexFunc_api_Liquid_api_Liquid.A : Ann := { lits := [], conds := [], loops := [(2, [8], [.leaf (.int .i64)], [], [], some 0, none)], regs := [] }
theorem slices_IndexFunc_api_Liquid_api_Liquid.eq (T : Table) : ∀ (x : TT [.leaf .slice, .leaf .dyn]) (h : H), evalFn Try.prog (slices_IndexFunc_api_Liquid_api_Liquid.tb T) slices_IndexFunc_api_Liquid_api_Liquid.A Try.f75 (.one (.leaf (.int .i64))) (TT.un [.leaf .slice, .leaf .dyn] x) h = slices_IndexFunc_api_Liquid_api_Liquid T x.1 x.2 h := by
  intro x h
  kernel_rfl
noncomputable def slices_IndexFunc_api_Liquid_api_Liquid.e (T : Table) : Entry := mkX [.leaf .slice, .leaf .dyn] (.one (.leaf (.int .i64))) fun x h => slices_IndexFunc_api_Liquid_api_Liquid T x.1 x.2 h
theorem slices_IndexFunc_api_Liquid_api_Liquid.ok (T : Table) (hT : TabOK Try.prog T) : EntryOK Try.prog 75 (slices_IndexFunc_api_Liquid_api_Liquid.e T) := mkX_ok (slices_IndexFunc_api_Liquid_api_Liquid.tbok T hT) Try.mixed Try.func75 (by kernel_rfl) (slices_IndexFunc_api_Liquid_api_Liquid.eq T)

/-! ### slices.ContainsFunc[[]spile/api.Liquid,spile/api.Liquid]: function 46 -/
noncomputable def slices_ContainsFunc_api_Liquid_api_Liquid.tb (T : Table) : Table := tab [] [] T
theorem slices_ContainsFunc_api_Liquid_api_Liquid.tbok (T : Table) (hT : TabOK Try.prog T) : TabOK Try.prog (slices_ContainsFunc_api_Liquid_api_Liquid.tb T) := TabOK.tab (hT) (all_nil _) (all_nil _)
noncomputable def slices_ContainsFunc_api_Liquid_api_Liquid (T : Table) (a0 : SV) (a1 : V) (h : H) : Option ((Bool) × H) :=
((slices_IndexFunc_api_Liquid_api_Liquid (slices_ContainsFunc_api_Liquid_api_Liquid.tb T) a0 a1 h).bind fun (r1, h2) =>
(some ((decide ((0 : Int) ≤ r1)), h2)))
def slices_ContainsFunc_api_Liquid_api_Liquid.A : Ann := { lits := [], conds := [], loops := [], regs := [] }
noncomputable def slices_ContainsFunc_api_Liquid_api_Liquid.tc (T : Table) : Table := tab [(75, slices_IndexFunc_api_Liquid_api_Liquid.e (slices_ContainsFunc_api_Liquid_api_Liquid.tb T))] [] (slices_ContainsFunc_api_Liquid_api_Liquid.tb T)
theorem slices_ContainsFunc_api_Liquid_api_Liquid.tcok (T : Table) (hT : TabOK Try.prog T) : TabOK Try.prog (slices_ContainsFunc_api_Liquid_api_Liquid.tc T) := TabOK.tab (slices_ContainsFunc_api_Liquid_api_Liquid.tbok T hT) (all_cons (slices_IndexFunc_api_Liquid_api_Liquid.ok _ (slices_ContainsFunc_api_Liquid_api_Liquid.tbok T hT)) (all_nil _)) (all_nil _)
theorem slices_ContainsFunc_api_Liquid_api_Liquid.eq (T : Table) : ∀ (x : TT [.leaf .slice, .leaf .dyn]) (h : H), evalFn Try.prog (slices_ContainsFunc_api_Liquid_api_Liquid.tc T) slices_ContainsFunc_api_Liquid_api_Liquid.A Try.f46 (.one (.leaf .bool)) (TT.un [.leaf .slice, .leaf .dyn] x) h = slices_ContainsFunc_api_Liquid_api_Liquid T x.1 x.2 h := by
  intro x h
  kernel_rfl
noncomputable def slices_ContainsFunc_api_Liquid_api_Liquid.e (T : Table) : Entry := mkX [.leaf .slice, .leaf .dyn] (.one (.leaf .bool)) fun x h => slices_ContainsFunc_api_Liquid_api_Liquid T x.1 x.2 h
theorem slices_ContainsFunc_api_Liquid_api_Liquid.ok (T : Table) (hT : TabOK Try.prog T) : EntryOK Try.prog 46 (slices_ContainsFunc_api_Liquid_api_Liquid.e T) := mkX_ok (slices_ContainsFunc_api_Liquid_api_Liquid.tcok T hT) Try.mixed Try.func46 (by kernel_rfl) (slices_ContainsFunc_api_Liquid_api_Liquid.eq T)

/-! ### slices.IndexFunc[[]int,int]: function 76 -/
noncomputable def slices_IndexFunc_int_int.tb (T : Table) : Table := tab [] [] T
theorem slices_IndexFunc_int_int.tbok (T : Table) (hT : TabOK Try.prog T) : TabOK Try.prog (slices_IndexFunc_int_int.tb T) := TabOK.tab (hT) (all_nil _) (all_nil _)
noncomputable def slices_IndexFunc_int_int.loop1 (T : Table) (a0 : SV) (a1 : V) : (Int) × H → Option (Stp ((Int) × H) (Flow (Unit) (Int) × H)) := fun (y1, h2) =>
(bif (decide (y1 < ((a0.len : Nat) : Int))) then (guardO (0 ≤ y1 ∧ y1 < ((a0.len : Nat) : Int)) ((rdT (.leaf (.int .i64)) h2 (V.add a0.a (Int.toNat y1 * 1))).bind fun x3 =>
(callV T.dy a1 [.int .i64 x3] h2 fun v4 h5 =>
(Res.pack (.one (.leaf .bool)) v4).bind fun r6 =>
(bif r6 then (some (.done (.ret y1, h5))) else (some (.more ((IntKind.wrap .i64 (y1 + 1)), h5))))))) else (some (.done (.ex0 (), h2))))
noncomputable def slices_IndexFunc_int_int (T : Table) (a0 : SV) (a1 : V) (h : H) : Option ((Int) × H) :=
((iter FUEL (slices_IndexFunc_int_int.loop1 T a0 a1) (0, h)).bind fun (fl8, h7) => match fl8 with
| .next _ => none
| .ret rr9 => (some (rr9, h7))
| .ex0 _ =>
(some ((-1), h7))
| .ex1 _ => none)
def slices_IndexFunc_int_int.A : Ann := { lits := [], conds := [], loops := [(2, [8], [.leaf (.int .i64)], [], [], some 0, none)], regs := [] }
theorem slices_IndexFunc_int_int.eq (T : Table) : ∀ (x : TT [.leaf .slice, .leaf .dyn]) (h : H), evalFn Try.prog (slices_IndexFunc_int_int.tb T) slices_IndexFunc_int_int.A Try.f76 (.one (.leaf (.int .i64))) (TT.un [.leaf .slice, .leaf .dyn] x) h = slices_IndexFunc_int_int T x.1 x.2 h := by
  intro x h
  kernel_rfl
noncomputable def slices_IndexFunc_int_int.e (T : Table) : Entry := mkX [.leaf .slice, .leaf .dyn] (.one (.leaf (.int .i64))) fun x h => slices_IndexFunc_int_int T x.1 x.2 h
theorem slices_IndexFunc_int_int.ok (T : Table) (hT : TabOK Try.prog T) : EntryOK Try.prog 76 (slices_IndexFunc_int_int.e T) := mkX_ok (slices_IndexFunc_int_int.tbok T hT) Try.mixed Try.func76 (by kernel_rfl) (slices_IndexFunc_int_int.eq T)

/-! ### slices.ContainsFunc[[]int,int]: function 50 -/
noncomputable def slices_ContainsFunc_int_int.tb (T : Table) : Table := tab [] [] T
theorem slices_ContainsFunc_int_int.tbok (T : Table) (hT : TabOK Try.prog T) : TabOK Try.prog (slices_ContainsFunc_int_int.tb T) := TabOK.tab (hT) (all_nil _) (all_nil _)
noncomputable def slices_ContainsFunc_int_int (T : Table) (a0 : SV) (a1 : V) (h : H) : Option ((Bool) × H) :=
((slices_IndexFunc_int_int (slices_ContainsFunc_int_int.tb T) a0 a1 h).bind fun (r1, h2) =>
(some ((decide ((0 : Int) ≤ r1)), h2)))
def slices_ContainsFunc_int_int.A : Ann := { lits := [], conds := [], loops := [], regs := [] }
noncomputable def slices_ContainsFunc_int_int.tc (T : Table) : Table := tab [(76, slices_IndexFunc_int_int.e (slices_ContainsFunc_int_int.tb T))] [] (slices_ContainsFunc_int_int.tb T)
theorem slices_ContainsFunc_int_int.tcok (T : Table) (hT : TabOK Try.prog T) : TabOK Try.prog (slices_ContainsFunc_int_int.tc T) := TabOK.tab (slices_ContainsFunc_int_int.tbok T hT) (all_cons (slices_IndexFunc_int_int.ok _ (slices_ContainsFunc_int_int.tbok T hT)) (all_nil _)) (all_nil _)
theorem slices_ContainsFunc_int_int.eq (T : Table) : ∀ (x : TT [.leaf .slice, .leaf .dyn]) (h : H), evalFn Try.prog (slices_ContainsFunc_int_int.tc T) slices_ContainsFunc_int_int.A Try.f50 (.one (.leaf .bool)) (TT.un [.leaf .slice, .leaf .dyn] x) h = slices_ContainsFunc_int_int T x.1 x.2 h := by
  intro x h
  kernel_rfl
noncomputable def slices_ContainsFunc_int_int.e (T : Table) : Entry := mkX [.leaf .slice, .leaf .dyn] (.one (.leaf .bool)) fun x h => slices_ContainsFunc_int_int T x.1 x.2 h
theorem slices_ContainsFunc_int_int.ok (T : Table) (hT : TabOK Try.prog T) : EntryOK Try.prog 50 (slices_ContainsFunc_int_int.e T) := mkX_ok (slices_ContainsFunc_int_int.tcok T hT) Try.mixed Try.func50 (by kernel_rfl) (slices_ContainsFunc_int_int.eq T)

/-! ### spile/blend.outside$1: function 77 -/
noncomputable def blend_outside_1.tb : Table := tab [] [] Table.nil
theorem blend_outside_1.tbok : TabOK Try.prog (blend_outside_1.tb) := TabOK.tab (TabOK.nil Try.prog) (all_nil _) (all_nil _)
noncomputable def blend_outside_1 (a0 : Int) (a1 : V) (h : H) : Option ((Bool) × H) :=
(((bif !(decide (a0 < 0)) then ((rdT (.leaf (.int .i64)) h a1).bind fun x1 =>
(some ((decide (x1 < a0)), h))) else (some (true, h)))).bind fun (y2, h3) =>
(some (y2, h3)))
def blend_outside_1.A : Ann := { lits := [], conds := [], loops := [], regs := [(1, [3], [.leaf .bool])] }
theorem blend_outside_1.eq : ∀ (x : TT [.leaf (.int .i64), .leaf .ptr]) (h : H), evalFn Try.prog (blend_outside_1.tb) blend_outside_1.A Try.f77 (.one (.leaf .bool)) (TT.un [.leaf (.int .i64), .leaf .ptr] x) h = blend_outside_1 x.1 x.2 h := by
  intro x h
  kernel_rfl
noncomputable def blend_outside_1.e : Entry := mkX [.leaf (.int .i64), .leaf .ptr] (.one (.leaf .bool)) fun x h => blend_outside_1 x.1 x.2 h
theorem blend_outside_1.ok : EntryOK Try.prog 77 (blend_outside_1.e) := mkX_ok (blend_outside_1.tbok) Try.mixed Try.func77 (by kernel_rfl) (blend_outside_1.eq)

/-! ### spile/blend.outside: function 51 -/
noncomputable def blend_outside.tb : Table := tab [] [(77, blend_outside_1.e)] Table.nil
theorem blend_outside.tbok : TabOK Try.prog (blend_outside.tb) := TabOK.tab (TabOK.nil Try.prog) (all_nil _) (all_cons blend_outside_1.ok (all_nil _))
noncomputable def blend_outside (a0 : Int) (h : H) : Option ((V) × H) :=
(some ((.func 77 [.lp true ([.int .i64 a0]) 0] : V), h))
def blend_outside.A : Ann := { lits := [], conds := [], loops := [], regs := [], ros := [1] }
theorem blend_outside.eq : ∀ (x : TT [.leaf (.int .i64)]) (h : H), evalFn Try.prog (blend_outside.tb) blend_outside.A Try.f51 (.one (.leaf .dyn)) (TT.un [.leaf (.int .i64)] x) h = blend_outside x h := by
  intro x h
  kernel_rfl
noncomputable def blend_outside.q (a0 : Int) : Option (V) := (blend_outside a0 H.empty).bind fun p => some p.1
theorem blend_outside.eqq : ∀ (x : TT [.leaf (.int .i64)]) (h : H), evalFn Try.prog (blend_outside.tb) blend_outside.A Try.f51 (.one (.leaf .dyn)) (TT.un [.leaf (.int .i64)] x) h = (blend_outside.q x).bind fun p => some (p, h) := by
  intro x h
  rw [blend_outside.eq]
  rfl
noncomputable def blend_outside.e : Entry := mkQ [.leaf (.int .i64)] (.one (.leaf .dyn)) fun x => blend_outside.q x
theorem blend_outside.ok : EntryOK Try.prog 51 (blend_outside.e) := mkQ_ok (blend_outside.tbok) Try.mixed Try.func51 (by kernel_rfl) (blend_outside.eqq)

/-! ### spile/interpolate.right: function 95 -/
noncomputable def interpolate_right.tb : Table := tab [(36, density_CheckP.e)] [] Table.nil
theorem interpolate_right.tbok : TabOK Try.prog (interpolate_right.tb) := TabOK.tab (TabOK.nil Try.prog) (all_cons density_CheckP.ok (all_nil _)) (all_nil _)
noncomputable def interpolate_right (a0 : SV) (h : H) : Option ((Bool) × H) :=
((rdRow true h [.int .i64, .int .i64] a0).bind fun s3 =>
((density_CheckP s3).bind fun (r1, r2) =>
(some ((decide (r2 = 0)), h))))
def interpolate_right.A : Ann := { lits := [], conds := [], loops := [], regs := [] }
theorem interpolate_right.eq : ∀ (x : TT [.leaf .slice]) (h : H), evalFn Try.prog (interpolate_right.tb) interpolate_right.A Try.f95 (.one (.leaf .bool)) (TT.un [.leaf .slice] x) h = interpolate_right x h := by
  intro x h
  kernel_rfl
noncomputable def interpolate_right.e : Entry := mkX [.leaf .slice] (.one (.leaf .bool)) fun x h => interpolate_right x h
theorem interpolate_right.ok : EntryOK Try.prog 95 (interpolate_right.e) := mkX_ok (interpolate_right.tbok) Try.mixed Try.func95 (by kernel_rfl) (interpolate_right.eq)
noncomputable def interpolate_rightP (a0 : (List (Int × Int))) : Option (Bool) := (interpolate_right (rowSV false [.int .i64, .int .i64] a0) H.empty).bind fun p => rdRes false p.2 (.one (.leaf .bool)) (Res.un (.one (.leaf .bool)) p.1)
theorem interpolate_rightP.eq : ∀ x : TT [.leaf (.row [.int .i64, .int .i64])], ((evalFn Try.prog (interpolate_right.tb) interpolate_right.A Try.f95 (.one (.leaf .bool)) (TT.lo false [.leaf (.row [.int .i64, .int .i64])] x) H.empty).bind fun p => rdRes false p.2 (.one (.leaf .bool)) (Res.un (.one (.leaf .bool)) p.1)) = interpolate_rightP x := by
  intro x
  rw [show TT.lo false [.leaf (.row [.int .i64, .int .i64])] x = TT.un [.leaf .slice] ((rowSV false [.int .i64, .int .i64] x)) from rfl, interpolate_right.eq]
  rfl
noncomputable def interpolate_rightP.e : Entry := mkP [.leaf (.row [.int .i64, .int .i64])] (.one (.leaf .bool)) fun x => interpolate_rightP x
theorem interpolate_rightP.ok : EntryOK Try.prog 95 (interpolate_rightP.e) := mkP_ok (interpolate_right.tbok) Try.mixed Try.func95 (by kernel_rfl) interpolate_rightP.eq
end Go.Proofs.Ytfkabibbaajfhaa
