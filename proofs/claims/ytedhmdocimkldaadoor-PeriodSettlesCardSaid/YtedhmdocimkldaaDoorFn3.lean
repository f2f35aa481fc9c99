/- The functions of the program as Lean functions, each with the equation by which the evaluator is that function. Written by a program of this session (evdrive.py). Conditions: none. -/
import Derived.Test.YtedhmdocimkldaaDoorProg
import Derived.Test.YtedhmdocimkldaaDoorEvSpec
import Derived.Test.YtedhmdocimkldaaDoorFn2
namespace Go.Proofs.YtedhmdocimkldaaDoor
open Go Go.Proofs.YtedhmdocimkldaaDoor.Ev
set_option maxRecDepth 100000
set_option linter.unusedVariables false
/-! ### slices.ContainsFunc[[]spile/api.Period,spile/api.Period]: function 32 -/
noncomputable def slices_ContainsFunc_api_Period_api_Period.tb (T : Table) : Table := tab [] [] T
theorem slices_ContainsFunc_api_Period_api_Period.tbok (T : Table) (hT : TabOK Tryd.prog T) : TabOK Tryd.prog (slices_ContainsFunc_api_Period_api_Period.tb T) := TabOK.tab (hT) (all_nil _) (all_nil _)
noncomputable def slices_ContainsFunc_api_Period_api_Period (T : Table) (a0 : SV) (a1 : V) (h : H) : Option ((Bool) × H) :=
((slices_IndexFunc_api_Period_api_Period (slices_ContainsFunc_api_Period_api_Period.tb T) a0 a1 h).bind fun (r1, h2) =>
(some ((decide ((0 : Int) ≤ r1)), h2)))
def slices_ContainsFunc_api_Period_api_Period.A : Ann := { lits := [], conds := [], loops := [], regs := [] }
noncomputable def slices_ContainsFunc_api_Period_api_Period.tc (T : Table) : Table := tab [(34, slices_IndexFunc_api_Period_api_Period.e (slices_ContainsFunc_api_Period_api_Period.tb T))] [] (slices_ContainsFunc_api_Period_api_Period.tb T)
theorem slices_ContainsFunc_api_Period_api_Period.tcok (T : Table) (hT : TabOK Tryd.prog T) : TabOK Tryd.prog (slices_ContainsFunc_api_Period_api_Period.tc T) := TabOK.tab (slices_ContainsFunc_api_Period_api_Period.tbok T hT) (all_cons (slices_IndexFunc_api_Period_api_Period.ok _ (slices_ContainsFunc_api_Period_api_Period.tbok T hT)) (all_nil _)) (all_nil _)
theorem slices_ContainsFunc_api_Period_api_Period.eq (T : Table) : ∀ (x : TT [.leaf .slice, .leaf .dyn]) (h : H), evalFn Tryd.prog (slices_ContainsFunc_api_Period_api_Period.tc T) slices_ContainsFunc_api_Period_api_Period.A Tryd.f32 (.one (.leaf .bool)) (TT.un [.leaf .slice, .leaf .dyn] x) h = slices_ContainsFunc_api_Period_api_Period T x.1 x.2 h := by
  intro x h
  kernel_rfl
noncomputable def slices_ContainsFunc_api_Period_api_Period.e (T : Table) : Entry := mkX [.leaf .slice, .leaf .dyn] (.one (.leaf .bool)) fun x h => slices_ContainsFunc_api_Period_api_Period T x.1 x.2 h
theorem slices_ContainsFunc_api_Period_api_Period.ok (T : Table) (hT : TabOK Tryd.prog T) : EntryOK Tryd.prog 32 (slices_ContainsFunc_api_Period_api_Period.e T) := mkX_ok (slices_ContainsFunc_api_Period_api_Period.tcok T hT) Tryd.mixed Tryd.func32 (by kernel_rfl) (slices_ContainsFunc_api_Period_api_Period.eq T)

/-! ### spile/spilelaw50.PeriodOpen$1: function 33 -/
noncomputable def spilelaw50_PeriodOpen_1.tb : Table := tab [] [] Table.nil
theorem spilelaw50_PeriodOpen_1.tbok : TabOK Tryd.prog (spilelaw50_PeriodOpen_1.tb) := TabOK.tab (TabOK.nil Tryd.prog) (all_nil _) (all_nil _)
noncomputable def spilelaw50_PeriodOpen_1 (a0 : (Int × Int × Int × Bool)) (h : H) : Option ((Bool) × H) :=
(match a0 with
| (a0_0, a0_1, a0_2, a0_3) =>
(let h1 : H := H.new h [.int .i64 a0_0, .int .i64 a0_1, .int .i64 a0_2, .bool a0_3] 4
((rdT (.leaf .bool) h1 (.hp h.next 4 3)).bind fun x2 =>
(some ((!x2), h1)))))
def spilelaw50_PeriodOpen_1.A : Ann := { lits := [], conds := [], loops := [], regs := [] }
theorem spilelaw50_PeriodOpen_1.eq : ∀ (x : TT [.agg [.int .i64, .int .i64, .int .i64, .bool]]) (h : H), evalFn Tryd.prog (spilelaw50_PeriodOpen_1.tb) spilelaw50_PeriodOpen_1.A Tryd.f33 (.one (.leaf .bool)) (TT.un [.agg [.int .i64, .int .i64, .int .i64, .bool]] x) h = spilelaw50_PeriodOpen_1 x h := by
  intro x h
  kernel_rfl
noncomputable def spilelaw50_PeriodOpen_1.e : Entry := mkX [.agg [.int .i64, .int .i64, .int .i64, .bool]] (.one (.leaf .bool)) fun x h => spilelaw50_PeriodOpen_1 x h
theorem spilelaw50_PeriodOpen_1.ok : EntryOK Tryd.prog 33 (spilelaw50_PeriodOpen_1.e) := mkX_ok (spilelaw50_PeriodOpen_1.tbok) Tryd.mixed Tryd.func33 (by kernel_rfl) (spilelaw50_PeriodOpen_1.eq)
noncomputable def spilelaw50_PeriodOpen_1P (a0 : (Int × Int × Int × Bool)) : Option (Bool) := (spilelaw50_PeriodOpen_1 a0 H.empty).bind fun p => rdRes false p.2 (.one (.leaf .bool)) (Res.un (.one (.leaf .bool)) p.1)
theorem spilelaw50_PeriodOpen_1P.eq : ∀ x : TT [.agg [.int .i64, .int .i64, .int .i64, .bool]], ((evalFn Tryd.prog (spilelaw50_PeriodOpen_1.tb) spilelaw50_PeriodOpen_1.A Tryd.f33 (.one (.leaf .bool)) (TT.lo false [.agg [.int .i64, .int .i64, .int .i64, .bool]] x) H.empty).bind fun p => rdRes false p.2 (.one (.leaf .bool)) (Res.un (.one (.leaf .bool)) p.1)) = spilelaw50_PeriodOpen_1P x := by
  intro x
  rw [show TT.lo false [.agg [.int .i64, .int .i64, .int .i64, .bool]] x = TT.un [.agg [.int .i64, .int .i64, .int .i64, .bool]] (x) from rfl, spilelaw50_PeriodOpen_1.eq]
  rfl
noncomputable def spilelaw50_PeriodOpen_1P.e : Entry := mkP [.agg [.int .i64, .int .i64, .int .i64, .bool]] (.one (.leaf .bool)) fun x => spilelaw50_PeriodOpen_1P x
theorem spilelaw50_PeriodOpen_1P.ok : EntryOK Tryd.prog 33 (spilelaw50_PeriodOpen_1P.e) := mkP_ok (spilelaw50_PeriodOpen_1.tbok) Tryd.mixed Tryd.func33 (by kernel_rfl) spilelaw50_PeriodOpen_1P.eq

/-! ### spile/spilelaw50.PeriodOpen$2: function 35 -/
noncomputable def spilelaw50_PeriodOpen_2.tb : Table := tab [] [] Table.nil
theorem spilelaw50_PeriodOpen_2.tbok : TabOK Tryd.prog (spilelaw50_PeriodOpen_2.tb) := TabOK.tab (TabOK.nil Tryd.prog) (all_nil _) (all_nil _)
noncomputable def spilelaw50_PeriodOpen_2 (a0 : (Int × Int × Int × Bool)) (h : H) : Option ((Bool) × H) :=
(match a0 with
| (a0_0, a0_1, a0_2, a0_3) =>
(let h1 : H := H.new h [.int .i64 a0_0, .int .i64 a0_1, .int .i64 a0_2, .bool a0_3] 4
((rdT (.leaf .bool) h1 (.hp h.next 4 3)).bind fun x2 =>
(some ((!x2), h1)))))
def spilelaw50_PeriodOpen_2.A : Ann := { lits := [], conds := [], loops := [], regs := [] }
theorem spilelaw50_PeriodOpen_2.eq : ∀ (x : TT [.agg [.int .i64, .int .i64, .int .i64, .bool]]) (h : H), evalFn Tryd.prog (spilelaw50_PeriodOpen_2.tb) spilelaw50_PeriodOpen_2.A Tryd.f35 (.one (.leaf .bool)) (TT.un [.agg [.int .i64, .int .i64, .int .i64, .bool]] x) h = spilelaw50_PeriodOpen_2 x h := by
  intro x h
  kernel_rfl
noncomputable def spilelaw50_PeriodOpen_2.e : Entry := mkX [.agg [.int .i64, .int .i64, .int .i64, .bool]] (.one (.leaf .bool)) fun x h => spilelaw50_PeriodOpen_2 x h
theorem spilelaw50_PeriodOpen_2.ok : EntryOK Tryd.prog 35 (spilelaw50_PeriodOpen_2.e) := mkX_ok (spilelaw50_PeriodOpen_2.tbok) Tryd.mixed Tryd.func35 (by kernel_rfl) (spilelaw50_PeriodOpen_2.eq)
noncomputable def spilelaw50_PeriodOpen_2P (a0 : (Int × Int × Int × Bool)) : Option (Bool) := (spilelaw50_PeriodOpen_2 a0 H.empty).bind fun p => rdRes false p.2 (.one (.leaf .bool)) (Res.un (.one (.leaf .bool)) p.1)
theorem spilelaw50_PeriodOpen_2P.eq : ∀ x : TT [.agg [.int .i64, .int .i64, .int .i64, .bool]], ((evalFn Tryd.prog (spilelaw50_PeriodOpen_2.tb) spilelaw50_PeriodOpen_2.A Tryd.f35 (.one (.leaf .bool)) (TT.lo false [.agg [.int .i64, .int .i64, .int .i64, .bool]] x) H.empty).bind fun p => rdRes false p.2 (.one (.leaf .bool)) (Res.un (.one (.leaf .bool)) p.1)) = spilelaw50_PeriodOpen_2P x := by
  intro x
  rw [show TT.lo false [.agg [.int .i64, .int .i64, .int .i64, .bool]] x = TT.un [.agg [.int .i64, .int .i64, .int .i64, .bool]] (x) from rfl, spilelaw50_PeriodOpen_2.eq]
  rfl
noncomputable def spilelaw50_PeriodOpen_2P.e : Entry := mkP [.agg [.int .i64, .int .i64, .int .i64, .bool]] (.one (.leaf .bool)) fun x => spilelaw50_PeriodOpen_2P x
theorem spilelaw50_PeriodOpen_2P.ok : EntryOK Tryd.prog 35 (spilelaw50_PeriodOpen_2P.e) := mkP_ok (spilelaw50_PeriodOpen_2.tbok) Tryd.mixed Tryd.func35 (by kernel_rfl) spilelaw50_PeriodOpen_2P.eq

/-! ### spile/spilelaw50.PeriodSettles$1: function 36 -/
noncomputable def spilelaw50_PeriodSettles_1.tb : Table := tab [] [] Table.nil
theorem spilelaw50_PeriodSettles_1.tbok : TabOK Tryd.prog (spilelaw50_PeriodSettles_1.tb) := TabOK.tab (TabOK.nil Tryd.prog) (all_nil _) (all_nil _)
noncomputable def spilelaw50_PeriodSettles_1.loop1 (x2 : SV) : (Int × Int) × H → Option (Stp ((Int × Int) × H) (Flow (Int) (Int) × H)) := fun ((y3, y4), h5) =>
(bif (decide (y4 < ((x2.len : Nat) : Int))) then (guardO (0 ≤ y4 ∧ y4 < ((x2.len : Nat) : Int)) ((rdT (.agg [.int .i64, .int .i64, .int .i64, .int .i64, .int .i64, .int .i64, .int .i64, .int .i64]) h5 (V.add x2.a (Int.toNat y4 * 8))).bind fun (x6_0, x6_1, x6_2, x6_3, x6_4, x6_5, x6_6, x6_7) =>
(let h7 : H := H.new h5 [.int .i64 0, .int .i64 0, .int .i64 0, .int .i64 0, .int .i64 0, .int .i64 0, .int .i64 0, .int .i64 0] 8
((H.wrs h7 (.hp h5.next 8 0) [.int .i64 x6_0, .int .i64 x6_1, .int .i64 x6_2, .int .i64 x6_3, .int .i64 x6_4, .int .i64 x6_5, .int .i64 x6_6, .int .i64 x6_7]).bind fun h8 =>
((rdT (.leaf (.int .i64)) h8 (.hp h5.next 8 7)).bind fun x9 =>
(some (.more (((IntKind.wrap .i64 (y3 + x9)), (IntKind.wrap .i64 (y4 + 1))), h8)))))))) else (some (.done (.ex0 y3, h5))))
noncomputable def spilelaw50_PeriodSettles_1 (a0 : (Int × Int × SV × Int)) (h : H) : Option ((Int) × H) :=
(match a0 with
| (a0_0, a0_1, a0_2, a0_3) =>
(let h1 : H := H.new h [.int .i64 a0_0, .int .i64 a0_1, .slice a0_2.a a0_2.len a0_2.cap a0_2.tail, .int .i64 a0_3] 4
((rdT (.leaf .slice) h1 (.hp h.next 4 2)).bind fun x2 =>
((iter FUEL (spilelaw50_PeriodSettles_1.loop1 x2) ((0, 0), h1)).bind fun (fl11, h10) => match fl11 with
| .next _ => none
| .ret rr12 => (some (rr12, h10))
| .ex0 y13 =>
(some (y13, h10))
| .ex1 _ => none))))
def spilelaw50_PeriodSettles_1.A : Ann := { lits := [], conds := [], loops := [(3, [3, 9], [.leaf (.int .i64), .leaf (.int .i64)], [3], [.leaf (.int .i64)], some 0, none)], regs := [] }
theorem spilelaw50_PeriodSettles_1.eq : ∀ (x : TT [.agg [.int .i64, .int .i64, .slice, .int .i64]]) (h : H), evalFn Tryd.prog (spilelaw50_PeriodSettles_1.tb) spilelaw50_PeriodSettles_1.A Tryd.f36 (.one (.leaf (.int .i64))) (TT.un [.agg [.int .i64, .int .i64, .slice, .int .i64]] x) h = spilelaw50_PeriodSettles_1 x h := by
  intro x h
  kernel_rfl
noncomputable def spilelaw50_PeriodSettles_1.e : Entry := mkX [.agg [.int .i64, .int .i64, .slice, .int .i64]] (.one (.leaf (.int .i64))) fun x h => spilelaw50_PeriodSettles_1 x h
theorem spilelaw50_PeriodSettles_1.ok : EntryOK Tryd.prog 36 (spilelaw50_PeriodSettles_1.e) := mkX_ok (spilelaw50_PeriodSettles_1.tbok) Tryd.mixed Tryd.func36 (by kernel_rfl) (spilelaw50_PeriodSettles_1.eq)
noncomputable def spilelaw50_PeriodSettles_1P (a0 : (Int × Int × (List (Int × Int × Int × Int × Int × Int × Int × Int)) × Int)) : Option (Int) := (spilelaw50_PeriodSettles_1 (a0.1, a0.2.1, rowSV false [.int .i64, .int .i64, .int .i64, .int .i64, .int .i64, .int .i64, .int .i64, .int .i64] a0.2.2.1, a0.2.2.2) H.empty).bind fun p => rdRes false p.2 (.one (.leaf (.int .i64))) (Res.un (.one (.leaf (.int .i64))) p.1)
theorem spilelaw50_PeriodSettles_1P.eq : ∀ x : TT [.agg [.int .i64, .int .i64, .row [.int .i64, .int .i64, .int .i64, .int .i64, .int .i64, .int .i64, .int .i64, .int .i64], .int .i64]], ((evalFn Tryd.prog (spilelaw50_PeriodSettles_1.tb) spilelaw50_PeriodSettles_1.A Tryd.f36 (.one (.leaf (.int .i64))) (TT.lo false [.agg [.int .i64, .int .i64, .row [.int .i64, .int .i64, .int .i64, .int .i64, .int .i64, .int .i64, .int .i64, .int .i64], .int .i64]] x) H.empty).bind fun p => rdRes false p.2 (.one (.leaf (.int .i64))) (Res.un (.one (.leaf (.int .i64))) p.1)) = spilelaw50_PeriodSettles_1P x := by
  intro x
  rw [show TT.lo false [.agg [.int .i64, .int .i64, .row [.int .i64, .int .i64, .int .i64, .int .i64, .int .i64, .int .i64, .int .i64, .int .i64], .int .i64]] x = TT.un [.agg [.int .i64, .int .i64, .slice, .int .i64]] ((x.1, x.2.1, rowSV false [.int .i64, .int .i64, .int .i64, .int .i64, .int .i64, .int .i64, .int .i64, .int .i64] x.2.2.1, x.2.2.2)) from rfl, spilelaw50_PeriodSettles_1.eq]
  rfl
noncomputable def spilelaw50_PeriodSettles_1P.e : Entry := mkP [.agg [.int .i64, .int .i64, .row [.int .i64, .int .i64, .int .i64, .int .i64, .int .i64, .int .i64, .int .i64, .int .i64], .int .i64]] (.one (.leaf (.int .i64))) fun x => spilelaw50_PeriodSettles_1P x
theorem spilelaw50_PeriodSettles_1P.ok : EntryOK Tryd.prog 36 (spilelaw50_PeriodSettles_1P.e) := mkP_ok (spilelaw50_PeriodSettles_1.tbok) Tryd.mixed Tryd.func36 (by kernel_rfl) spilelaw50_PeriodSettles_1P.eq

/-! ### slices.IndexFunc[[]spile/api.Adjustment,spile/api.Adjustment]: function 53 -/
noncomputable def slices_IndexFunc_api_Adjustment_api_Adjustment.tb (T : Table) : Table := tab [] [] T
theorem slices_IndexFunc_api_Adjustment_api_Adjustment.tbok (T : Table) (hT : TabOK Tryd.prog T) : TabOK Tryd.prog (slices_IndexFunc_api_Adjustment_api_Adjustment.tb T) := TabOK.tab (hT) (all_nil _) (all_nil _)
noncomputable def slices_IndexFunc_api_Adjustment_api_Adjustment.loop1 (T : Table) (a0 : SV) (a1 : V) : (Int) × H → Option (Stp ((Int) × H) (Flow (Unit) (Int) × H)) := fun (y1, h2) =>
(bif (decide (y1 < ((a0.len : Nat) : Int))) then (guardO (0 ≤ y1 ∧ y1 < ((a0.len : Nat) : Int)) ((rdT (.agg [.int .i64, .int .i64]) h2 (V.add a0.a (Int.toNat y1 * 2))).bind fun (x3_0, x3_1) =>
(callV T.dy a1 [.agg [.int .i64 x3_0, .int .i64 x3_1]] h2 fun v4 h5 =>
(Res.pack (.one (.leaf .bool)) v4).bind fun r6 =>
(bif r6 then (some (.done (.ret y1, h5))) else (some (.more ((IntKind.wrap .i64 (y1 + 1)), h5))))))) else (some (.done (.ex0 (), h2))))
noncomputable def slices_IndexFunc_api_Adjustment_api_Adjustment (T : Table) (a0 : SV) (a1 : V) (h : H) : Option ((Int) × H) :=
((iter FUEL (slices_IndexFunc_api_Adjustment_api_Adjustment.loop1 T a0 a1) (0, h)).bind fun (fl8, h7) => match fl8 with
| .next _ => none
| .ret rr9 => (some (rr9, h7))
| .ex0 _ =>
(some ((-1), h7))
| .ex1 _ => none)
def slices_IndexFunc_api_Adjustment_api_Adjustment.A : Ann := { lits := [], conds := [], loops := [(2, [8], [.leaf (.int .i64)], [], [], some 0, none)], regs := [] }
theorem slices_IndexFunc_api_Adjustment_api_Adjustment.eq (T : Table) : ∀ (x : TT [.leaf .slice, .leaf .dyn]) (h : H), evalFn Tryd.prog (slices_IndexFunc_api_Adjustment_api_Adjustment.tb T) slices_IndexFunc_api_Adjustment_api_Adjustment.A Tryd.f53 (.one (.leaf (.int .i64))) (TT.un [.leaf .slice, .leaf .dyn] x) h = slices_IndexFunc_api_Adjustment_api_Adjustment T x.1 x.2 h := by
  intro x h
  kernel_rfl
noncomputable def slices_IndexFunc_api_Adjustment_api_Adjustment.e (T : Table) : Entry := mkX [.leaf .slice, .leaf .dyn] (.one (.leaf (.int .i64))) fun x h => slices_IndexFunc_api_Adjustment_api_Adjustment T x.1 x.2 h
theorem slices_IndexFunc_api_Adjustment_api_Adjustment.ok (T : Table) (hT : TabOK Tryd.prog T) : EntryOK Tryd.prog 53 (slices_IndexFunc_api_Adjustment_api_Adjustment.e T) := mkX_ok (slices_IndexFunc_api_Adjustment_api_Adjustment.tbok T hT) Tryd.mixed Tryd.func53 (by kernel_rfl) (slices_IndexFunc_api_Adjustment_api_Adjustment.eq T)

/-! ### slices.ContainsFunc[[]spile/api.Adjustment,spile/api.Adjustment]: function 37 -/
noncomputable def slices_ContainsFunc_api_Adjustment_api_Adjustment.tb (T : Table) : Table := tab [] [] T
theorem slices_ContainsFunc_api_Adjustment_api_Adjustment.tbok (T : Table) (hT : TabOK Tryd.prog T) : TabOK Tryd.prog (slices_ContainsFunc_api_Adjustment_api_Adjustment.tb T) := TabOK.tab (hT) (all_nil _) (all_nil _)
noncomputable def slices_ContainsFunc_api_Adjustment_api_Adjustment (T : Table) (a0 : SV) (a1 : V) (h : H) : Option ((Bool) × H) :=
((slices_IndexFunc_api_Adjustment_api_Adjustment (slices_ContainsFunc_api_Adjustment_api_Adjustment.tb T) a0 a1 h).bind fun (r1, h2) =>
(some ((decide ((0 : Int) ≤ r1)), h2)))
def slices_ContainsFunc_api_Adjustment_api_Adjustment.A : Ann := { lits := [], conds := [], loops := [], regs := [] }
noncomputable def slices_ContainsFunc_api_Adjustment_api_Adjustment.tc (T : Table) : Table := tab [(53, slices_IndexFunc_api_Adjustment_api_Adjustment.e (slices_ContainsFunc_api_Adjustment_api_Adjustment.tb T))] [] (slices_ContainsFunc_api_Adjustment_api_Adjustment.tb T)
theorem slices_ContainsFunc_api_Adjustment_api_Adjustment.tcok (T : Table) (hT : TabOK Tryd.prog T) : TabOK Tryd.prog (slices_ContainsFunc_api_Adjustment_api_Adjustment.tc T) := TabOK.tab (slices_ContainsFunc_api_Adjustment_api_Adjustment.tbok T hT) (all_cons (slices_IndexFunc_api_Adjustment_api_Adjustment.ok _ (slices_ContainsFunc_api_Adjustment_api_Adjustment.tbok T hT)) (all_nil _)) (all_nil _)
theorem slices_ContainsFunc_api_Adjustment_api_Adjustment.eq (T : Table) : ∀ (x : TT [.leaf .slice, .leaf .dyn]) (h : H), evalFn Tryd.prog (slices_ContainsFunc_api_Adjustment_api_Adjustment.tc T) slices_ContainsFunc_api_Adjustment_api_Adjustment.A Tryd.f37 (.one (.leaf .bool)) (TT.un [.leaf .slice, .leaf .dyn] x) h = slices_ContainsFunc_api_Adjustment_api_Adjustment T x.1 x.2 h := by
  intro x h
  kernel_rfl
noncomputable def slices_ContainsFunc_api_Adjustment_api_Adjustment.e (T : Table) : Entry := mkX [.leaf .slice, .leaf .dyn] (.one (.leaf .bool)) fun x h => slices_ContainsFunc_api_Adjustment_api_Adjustment T x.1 x.2 h
theorem slices_ContainsFunc_api_Adjustment_api_Adjustment.ok (T : Table) (hT : TabOK Tryd.prog T) : EntryOK Tryd.prog 37 (slices_ContainsFunc_api_Adjustment_api_Adjustment.e T) := mkX_ok (slices_ContainsFunc_api_Adjustment_api_Adjustment.tcok T hT) Tryd.mixed Tryd.func37 (by kernel_rfl) (slices_ContainsFunc_api_Adjustment_api_Adjustment.eq T)

/-! ### spile/spilelaw50.PeriodSettles$2: function 38 -/
noncomputable def spilelaw50_PeriodSettles_2.tb : Table := tab [] [] Table.nil
theorem spilelaw50_PeriodSettles_2.tbok : TabOK Tryd.prog (spilelaw50_PeriodSettles_2.tb) := TabOK.tab (TabOK.nil Tryd.prog) (all_nil _) (all_nil _)
noncomputable def spilelaw50_PeriodSettles_2 (a0 : (Int × Int)) (h : H) : Option ((Bool) × H) :=
(match a0 with
| (a0_0, a0_1) =>
(let h1 : H := H.new h [.int .i64 a0_0, .int .i64 a0_1] 2
((rdT (.leaf (.int .i64)) h1 (.hp h.next 2 0)).bind fun x2 =>
(some ((decide (x2 < 1)), h1)))))
def spilelaw50_PeriodSettles_2.A : Ann := { lits := [], conds := [], loops := [], regs := [] }
theorem spilelaw50_PeriodSettles_2.eq : ∀ (x : TT [.agg [.int .i64, .int .i64]]) (h : H), evalFn Tryd.prog (spilelaw50_PeriodSettles_2.tb) spilelaw50_PeriodSettles_2.A Tryd.f38 (.one (.leaf .bool)) (TT.un [.agg [.int .i64, .int .i64]] x) h = spilelaw50_PeriodSettles_2 x h := by
  intro x h
  kernel_rfl
noncomputable def spilelaw50_PeriodSettles_2.e : Entry := mkX [.agg [.int .i64, .int .i64]] (.one (.leaf .bool)) fun x h => spilelaw50_PeriodSettles_2 x h
theorem spilelaw50_PeriodSettles_2.ok : EntryOK Tryd.prog 38 (spilelaw50_PeriodSettles_2.e) := mkX_ok (spilelaw50_PeriodSettles_2.tbok) Tryd.mixed Tryd.func38 (by kernel_rfl) (spilelaw50_PeriodSettles_2.eq)
noncomputable def spilelaw50_PeriodSettles_2P (a0 : (Int × Int)) : Option (Bool) := (spilelaw50_PeriodSettles_2 a0 H.empty).bind fun p => rdRes false p.2 (.one (.leaf .bool)) (Res.un (.one (.leaf .bool)) p.1)
theorem spilelaw50_PeriodSettles_2P.eq : ∀ x : TT [.agg [.int .i64, .int .i64]], ((evalFn Tryd.prog (spilelaw50_PeriodSettles_2.tb) spilelaw50_PeriodSettles_2.A Tryd.f38 (.one (.leaf .bool)) (TT.lo false [.agg [.int .i64, .int .i64]] x) H.empty).bind fun p => rdRes false p.2 (.one (.leaf .bool)) (Res.un (.one (.leaf .bool)) p.1)) = spilelaw50_PeriodSettles_2P x := by
  intro x
  rw [show TT.lo false [.agg [.int .i64, .int .i64]] x = TT.un [.agg [.int .i64, .int .i64]] (x) from rfl, spilelaw50_PeriodSettles_2.eq]
  rfl
noncomputable def spilelaw50_PeriodSettles_2P.e : Entry := mkP [.agg [.int .i64, .int .i64]] (.one (.leaf .bool)) fun x => spilelaw50_PeriodSettles_2P x
theorem spilelaw50_PeriodSettles_2P.ok : EntryOK Tryd.prog 38 (spilelaw50_PeriodSettles_2P.e) := mkP_ok (spilelaw50_PeriodSettles_2.tbok) Tryd.mixed Tryd.func38 (by kernel_rfl) spilelaw50_PeriodSettles_2P.eq

/-! ### spile/statement.numbers: function 63 -/
noncomputable def statement_numbers.tb : Table := tab [] [] Table.nil
theorem statement_numbers.tbok : TabOK Tryd.prog (statement_numbers.tb) := TabOK.tab (TabOK.nil Tryd.prog) (all_nil _) (all_nil _)
noncomputable def statement_numbers (a0 : (Int × Int × Int × Int × Int × Int × Int × Int)) (h : H) : Option ((SV) × H) :=
(match a0 with
| (a0_0, a0_1, a0_2, a0_3, a0_4, a0_5, a0_6, a0_7) =>
(let h1 : H := H.new h [.int .i64 a0_0, .int .i64 a0_1, .int .i64 a0_2, .int .i64 a0_3, .int .i64 a0_4, .int .i64 a0_5, .int .i64 a0_6, .int .i64 a0_7] 8
((rdT (.agg [.int .i64, .int .i64, .int .i64, .int .i64, .int .i64]) h1 (.hp h.next 8 0)).bind fun (x2_0, x2_1, x2_2, x2_3, x2_4) =>
(let h3 : H := H.new h1 [.int .i64 0, .int .i64 0, .int .i64 0, .int .i64 0, .int .i64 0] 5
((H.wrs h3 (.hp h1.next 5 0) [.int .i64 x2_0, .int .i64 x2_1, .int .i64 x2_2, .int .i64 x2_3, .int .i64 x2_4]).bind fun h4 =>
((rdT (.leaf (.int .i64)) h4 (.hp h1.next 5 0)).bind fun x5 =>
((rdT (.leaf (.int .i64)) h4 (.hp h1.next 5 1)).bind fun x6 =>
((rdT (.leaf (.int .i64)) h4 (.hp h1.next 5 2)).bind fun x7 =>
((rdT (.leaf (.int .i64)) h4 (.hp h1.next 5 3)).bind fun x8 =>
((rdT (.leaf (.int .i64)) h4 (.hp h1.next 5 4)).bind fun x9 =>
((rdT (.leaf (.int .i64)) h4 (.hp h.next 8 5)).bind fun x10 =>
((rdT (.leaf (.int .i64)) h4 (.hp h.next 8 6)).bind fun x11 =>
((rdT (.leaf (.int .i64)) h4 (.hp h.next 8 7)).bind fun x12 =>
(let h13 : H := H.new h4 [.int .i64 x5, .int .i64 x6, .int .i64 x7, .int .i64 x8, .int .i64 x9, .int .i64 x10, .int .i64 x11, .int .i64 x12] 1
(some (⟨.hp h4.next 8 0, 8, 8, false⟩, h13))))))))))))))))
def statement_numbers.A : Ann := { lits := [22], conds := [], loops := [], regs := [] }
theorem statement_numbers.eq : ∀ (x : TT [.agg [.int .i64, .int .i64, .int .i64, .int .i64, .int .i64, .int .i64, .int .i64, .int .i64]]) (h : H), evalFn Tryd.prog (statement_numbers.tb) statement_numbers.A Tryd.f63 (.one (.leaf .slice)) (TT.un [.agg [.int .i64, .int .i64, .int .i64, .int .i64, .int .i64, .int .i64, .int .i64, .int .i64]] x) h = statement_numbers x h := by
  intro x h
  kernel_rfl
noncomputable def statement_numbers.e : Entry := mkX [.agg [.int .i64, .int .i64, .int .i64, .int .i64, .int .i64, .int .i64, .int .i64, .int .i64]] (.one (.leaf .slice)) fun x h => statement_numbers x h
theorem statement_numbers.ok : EntryOK Tryd.prog 63 (statement_numbers.e) := mkX_ok (statement_numbers.tbok) Tryd.mixed Tryd.func63 (by kernel_rfl) (statement_numbers.eq)
noncomputable def statement_numbersP (a0 : (Int × Int × Int × Int × Int × Int × Int × Int)) : Option ((List (Int))) := (statement_numbers a0 H.empty).bind fun p => rdRes false p.2 (.one (.leaf (.row [.int .i64]))) (Res.un (.one (.leaf .slice)) p.1)
theorem statement_numbersP.eq : ∀ x : TT [.agg [.int .i64, .int .i64, .int .i64, .int .i64, .int .i64, .int .i64, .int .i64, .int .i64]], ((evalFn Tryd.prog (statement_numbers.tb) statement_numbers.A Tryd.f63 (.one (.leaf .slice)) (TT.lo false [.agg [.int .i64, .int .i64, .int .i64, .int .i64, .int .i64, .int .i64, .int .i64, .int .i64]] x) H.empty).bind fun p => rdRes false p.2 (.one (.leaf (.row [.int .i64]))) (Res.un (.one (.leaf .slice)) p.1)) = statement_numbersP x := by
  intro x
  rw [show TT.lo false [.agg [.int .i64, .int .i64, .int .i64, .int .i64, .int .i64, .int .i64, .int .i64, .int .i64]] x = TT.un [.agg [.int .i64, .int .i64, .int .i64, .int .i64, .int .i64, .int .i64, .int .i64, .int .i64]] (x) from rfl, statement_numbers.eq]
  rfl
noncomputable def statement_numbersP.e : Entry := mkP [.agg [.int .i64, .int .i64, .int .i64, .int .i64, .int .i64, .int .i64, .int .i64, .int .i64]] (.one (.leaf (.row [.int .i64]))) fun x => statement_numbersP x
theorem statement_numbersP.ok : EntryOK Tryd.prog 63 (statement_numbersP.e) := mkP_ok (statement_numbers.tbok) Tryd.mixed Tryd.func63 (by kernel_rfl) statement_numbersP.eq

/-! ### spile/statement.within: function 79 -/
noncomputable def statement_within.tb : Table := tab [] [] Table.nil
theorem statement_within.tbok : TabOK Tryd.prog (statement_within.tb) := TabOK.tab (TabOK.nil Tryd.prog) (all_nil _) (all_nil _)
noncomputable def statement_within (a0 : Int) (a1 : Int) (a2 : Int) (h : H) : Option ((Bool) × H) :=
(((bif (decide (a1 ≤ a0)) then (some ((decide (a0 ≤ a2)), h)) else (some (false, h)))).bind fun (y1, h2) =>
(some (y1, h2)))
def statement_within.A : Ann := { lits := [], conds := [], loops := [], regs := [(1, [6], [.leaf .bool])] }
theorem statement_within.eq : ∀ (x : TT [.leaf (.int .i64), .leaf (.int .i64), .leaf (.int .i64)]) (h : H), evalFn Tryd.prog (statement_within.tb) statement_within.A Tryd.f79 (.one (.leaf .bool)) (TT.un [.leaf (.int .i64), .leaf (.int .i64), .leaf (.int .i64)] x) h = statement_within x.1 x.2.1 x.2.2 h := by
  intro x h
  kernel_rfl
noncomputable def statement_within.e : Entry := mkX [.leaf (.int .i64), .leaf (.int .i64), .leaf (.int .i64)] (.one (.leaf .bool)) fun x h => statement_within x.1 x.2.1 x.2.2 h
theorem statement_within.ok : EntryOK Tryd.prog 79 (statement_within.e) := mkX_ok (statement_within.tbok) Tryd.mixed Tryd.func79 (by kernel_rfl) (statement_within.eq)
noncomputable def statement_withinP (a0 : Int) (a1 : Int) (a2 : Int) : Option (Bool) := (statement_within a0 a1 a2 H.empty).bind fun p => rdRes false p.2 (.one (.leaf .bool)) (Res.un (.one (.leaf .bool)) p.1)
theorem statement_withinP.eq : ∀ x : TT [.leaf (.int .i64), .leaf (.int .i64), .leaf (.int .i64)], ((evalFn Tryd.prog (statement_within.tb) statement_within.A Tryd.f79 (.one (.leaf .bool)) (TT.lo false [.leaf (.int .i64), .leaf (.int .i64), .leaf (.int .i64)] x) H.empty).bind fun p => rdRes false p.2 (.one (.leaf .bool)) (Res.un (.one (.leaf .bool)) p.1)) = statement_withinP x.1 x.2.1 x.2.2 := by
  intro x
  rw [show TT.lo false [.leaf (.int .i64), .leaf (.int .i64), .leaf (.int .i64)] x = TT.un [.leaf (.int .i64), .leaf (.int .i64), .leaf (.int .i64)] (x.1, x.2.1, x.2.2) from rfl, statement_within.eq]
  rfl
noncomputable def statement_withinP.e : Entry := mkP [.leaf (.int .i64), .leaf (.int .i64), .leaf (.int .i64)] (.one (.leaf .bool)) fun x => statement_withinP x.1 x.2.1 x.2.2
theorem statement_withinP.ok : EntryOK Tryd.prog 79 (statement_withinP.e) := mkP_ok (statement_within.tbok) Tryd.mixed Tryd.func79 (by kernel_rfl) statement_withinP.eq

/-! ### slices.IndexFunc[[]int,int]: function 90 -/
noncomputable def slices_IndexFunc_int_int.tb (T : Table) : Table := tab [] [] T
theorem slices_IndexFunc_int_int.tbok (T : Table) (hT : TabOK Tryd.prog T) : TabOK Tryd.prog (slices_IndexFunc_int_int.tb T) := TabOK.tab (hT) (all_nil _) (all_nil _)
noncomputable def slices_IndexFunc_int_int.loop1 (T : Table) (a0 : SV) (a1 : V) : (Int) × H → Option (Stp ((Int) × H) (Flow (Unit) (Int) × H)) := fun (y1, h2) =>
(bif (decide (y1 < ((a0.len : Nat) : Int))) then (guardO (0 ≤ y1 ∧ y1 < ((a0.len : Nat) : Int)) ((rdT (.leaf (.int .i64)) h2 (V.add a0.a (Int.toNat y1 * 1))).bind fun x3 =>
(callV T.dy a1 [.int .i64 x3] h2 fun v4 h5 =>
(Res.pack (.one (.leaf .bool)) v4).bind fun r6 =>
(bif r6 then (some (.done (.ret y1, h5))) else (some (.more ((IntKind.wrap .i64 (y1 + 1)), h5))))))) else (some (.done (.ex0 (), h2))))
noncomputable def slices_IndexFunc_int_int (T : Table) (a0 : SV) (a1 : V) (h : H) : Option ((Int) × H) :=
((iter FUEL (slices_IndexFunc_int_int.loop1 T a0 a1) (0, h)).bind fun (fl8, h7) => match fl8 with
| .next _ => none
| .ret rr9 => (some (rr9, h7))
| .ex0 _ =>
(some ((-1), h7))
| .ex1 _ => none)
def slices_IndexFunc_int_int.A : Ann := { lits := [], conds := [], loops := [(2, [8], [.leaf (.int .i64)], [], [], some 0, none)], regs := [] }
theorem slices_IndexFunc_int_int.eq (T : Table) : ∀ (x : TT [.leaf .slice, .leaf .dyn]) (h : H), evalFn Tryd.prog (slices_IndexFunc_int_int.tb T) slices_IndexFunc_int_int.A Tryd.f90 (.one (.leaf (.int .i64))) (TT.un [.leaf .slice, .leaf .dyn] x) h = slices_IndexFunc_int_int T x.1 x.2 h := by
  intro x h
  kernel_rfl
noncomputable def slices_IndexFunc_int_int.e (T : Table) : Entry := mkX [.leaf .slice, .leaf .dyn] (.one (.leaf (.int .i64))) fun x h => slices_IndexFunc_int_int T x.1 x.2 h
theorem slices_IndexFunc_int_int.ok (T : Table) (hT : TabOK Tryd.prog T) : EntryOK Tryd.prog 90 (slices_IndexFunc_int_int.e T) := mkX_ok (slices_IndexFunc_int_int.tbok T hT) Tryd.mixed Tryd.func90 (by kernel_rfl) (slices_IndexFunc_int_int.eq T)
end Go.Proofs.YtedhmdocimkldaaDoor
