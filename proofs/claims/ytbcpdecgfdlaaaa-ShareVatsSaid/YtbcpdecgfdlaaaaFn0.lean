/- The functions of the program as Lean functions, each with the equation by which the evaluator is that function. Written by a program of this session (evdrive.py). Conditions: none. -/
import Derived.Test.YtbcpdecgfdlaaaaProg
import Derived.Test.YtbcpdecgfdlaaaaEvSpec

namespace Go.Proofs.Ytbcpdecgfdlaaaa
open Go Go.Proofs.Ytbcpdecgfdlaaaa.Ev
set_option maxRecDepth 100000
set_option linter.unusedVariables false
theorem Try.mixed : Try.prog.follows .mixedOrders = true := by kernel_rfl
/-! ### spile/share.Check: function 18 -/
noncomputable def share_Check.tb : Table := tab [] [] Table.nil
theorem share_Check.tbok : TabOK Try.prog (share_Check.tb) := TabOK.tab (TabOK.nil Try.prog) (all_nil _) (all_nil _)
noncomputable def share_Check.loop1 (a0 : SV) : (Int × Int) × H → Option (Stp ((Int × Int) × H) (Flow (Int) (Int) × H)) := fun ((y1, y2), h3) =>
(bif (decide (y2 < ((a0.len : Nat) : Int))) then (guardO (0 ≤ y2 ∧ y2 < ((a0.len : Nat) : Int)) ((rdT (.agg [.int .i64, .int .i64]) h3 (V.add a0.a (Int.toNat y2 * 2))).bind fun (x4_0, x4_1) =>
(let h5 : H := H.new h3 [.int .i64 0, .int .i64 0] 2
((H.wrs h5 (.hp h3.next 2 0) [.int .i64 x4_0, .int .i64 x4_1]).bind fun h6 =>
((((rdT (.leaf (.int .i64)) h6 (.hp h3.next 2 0)).bind fun x7 =>
(bif !(decide (x7 < 1)) then ((rdT (.leaf (.int .i64)) h6 (.hp h3.next 2 0)).bind fun x8 =>
(bif !(decide ((1073741824 : Int) < x8)) then ((rdT (.leaf (.int .i64)) h6 (.hp h3.next 2 1)).bind fun x9 =>
(bif !(decide (x9 < 1)) then ((rdT (.leaf (.int .i64)) h6 (.hp h3.next 2 1)).bind fun x10 =>
(some ((decide ((10737418240000 : Int) < x10)), h6))) else (some (true, h6)))) else (some (true, h6)))) else (some (true, h6))))).bind fun (y11, h12) =>
(bif y11 then (some (.done (.ret 2, h12))) else (((let h13 : H := H.reserve h12 0
(bif (decide ((0 : Int) < y2)) then (guardO (0 ≤ (IntKind.wrap .i64 (y2 - 1)) ∧ (IntKind.wrap .i64 (y2 - 1)) < ((a0.len : Nat) : Int)) (guardO (V.nn ((V.add a0.a (Int.toNat (IntKind.wrap .i64 (y2 - 1)) * 2)) : V) = true) ((rdT (.leaf (.int .i64)) h13 (V.add (V.add a0.a (Int.toNat (IntKind.wrap .i64 (y2 - 1)) * 2)) 0)).bind fun x14 =>
((rdT (.leaf (.int .i64)) h13 (.hp h3.next 2 0)).bind fun x15 =>
(some ((decide (x15 ≤ x14)), h13)))))) else (some (false, h13))))).bind fun (y16, h17) =>
(bif y16 then (some (.done (.ret 5, h17))) else ((rdT (.leaf (.int .i64)) h17 (.hp h3.next 2 1)).bind fun x18 =>
(some (.more (((IntKind.wrap .i64 (y1 + x18)), (IntKind.wrap .i64 (y2 + 1))), h17)))))))))))) else (some (.done (.ex0 y1, h3))))
noncomputable def share_Check (a0 : SV) (h : H) : Option ((Int) × H) :=
(bif (decide ((32 : Int) < ((a0.len : Nat) : Int))) then (some (8, h)) else ((iter FUEL (share_Check.loop1 a0) ((0, 0), h)).bind fun (fl20, h19) => match fl20 with
| .next _ => none
| .ret rr21 => (some (rr21, h19))
| .ex0 y22 =>
(bif (decide ((10737418240000 : Int) < y22)) then (some (15, h19)) else (some (0, h19)))
| .ex1 _ => none))
def share_Check.A : Ann := { lits := [], conds := [], loops := [(5, [3, 11], [.leaf (.int .i64), .leaf (.int .i64)], [3], [.leaf (.int .i64)], some 0, none)], regs := [(7, [16], [.leaf .bool]), (9, [35], [.leaf .bool])] }
theorem share_Check.eq : ∀ (x : TT [.leaf .slice]) (h : H), evalFn Try.prog (share_Check.tb) share_Check.A Try.f18 (.one (.leaf (.int .i64))) (TT.un [.leaf .slice] x) h = share_Check x h := by
  intro x h
  kernel_rfl
noncomputable def share_Check.e : Entry := mkX [.leaf .slice] (.one (.leaf (.int .i64))) fun x h => share_Check x h
theorem share_Check.ok : EntryOK Try.prog 18 (share_Check.e) := mkX_ok (share_Check.tbok) Try.mixed Try.func18 (by kernel_rfl) (share_Check.eq)
noncomputable def share_CheckP (a0 : (List (Int × Int))) : Option (Int) := (share_Check (rowSV false [.int .i64, .int .i64] a0) H.empty).bind fun p => rdRes false p.2 (.one (.leaf (.int .i64))) (Res.un (.one (.leaf (.int .i64))) p.1)
theorem share_CheckP.eq : ∀ x : TT [.leaf (.row [.int .i64, .int .i64])], ((evalFn Try.prog (share_Check.tb) share_Check.A Try.f18 (.one (.leaf (.int .i64))) (TT.lo false [.leaf (.row [.int .i64, .int .i64])] x) H.empty).bind fun p => rdRes false p.2 (.one (.leaf (.int .i64))) (Res.un (.one (.leaf (.int .i64))) p.1)) = share_CheckP x := by
  intro x
  rw [show TT.lo false [.leaf (.row [.int .i64, .int .i64])] x = TT.un [.leaf .slice] ((rowSV false [.int .i64, .int .i64] x)) from rfl, share_Check.eq]
  rfl
noncomputable def share_CheckP.e : Entry := mkP [.leaf (.row [.int .i64, .int .i64])] (.one (.leaf (.int .i64))) fun x => share_CheckP x
theorem share_CheckP.ok : EntryOK Try.prog 18 (share_CheckP.e) := mkP_ok (share_Check.tbok) Try.mixed Try.func18 (by kernel_rfl) share_CheckP.eq

/-! ### spile/share.amounts: function 37 -/
noncomputable def share_amounts.tb : Table := tab [] [] Table.nil
theorem share_amounts.tbok : TabOK Try.prog (share_amounts.tb) := TabOK.tab (TabOK.nil Try.prog) (all_nil _) (all_nil _)
noncomputable def share_amounts.loop1 (a0 : SV) : (SV × Int × Int) × H → Option (Stp ((SV × Int × Int) × H) (Flow (SV × Int) (SV × Int) × H)) := fun ((y1, y2, y3), h4) =>
(bif (decide (y3 < ((a0.len : Nat) : Int))) then (guardO (0 ≤ y3 ∧ y3 < ((a0.len : Nat) : Int)) ((rdT (.agg [.int .i64, .int .i64]) h4 (V.add a0.a (Int.toNat y3 * 2))).bind fun (x5_0, x5_1) =>
(let h6 : H := H.new h4 [.int .i64 0, .int .i64 0] 2
((H.wrs h6 (.hp h4.next 2 0) [.int .i64 x5_0, .int .i64 x5_1]).bind fun h7 =>
(let h8 : H := H.reserve h7 1
((rdT (.leaf (.int .i64)) h8 (.hp h4.next 2 1)).bind fun x9 =>
((appendS h8 (some h7.next) 1 8 y1 [.int .i64 x9] 1).bind fun (s12, h11) =>
((rdT (.leaf (.int .i64)) h11 (.hp h4.next 2 1)).bind fun x14 =>
(guardO (apartA ((appAddr (.slice y1.a y1.len y1.cap y1.tail : V) (.slice (.lp true ([.int .i64 x9]) 0) 1 1 false : V) (some h7.next)) : V) (.hp h4.next 2 1 : V) = true) (some (.more ((s12, (IntKind.wrap .i64 (y2 + x14)), (IntKind.wrap .i64 (y3 + 1))), h11)))))))))))) else (some (.done (.ex0 (y1, y2), h4))))
noncomputable def share_amounts (a0 : SV) (h : H) : Option ((SV × Int) × H) :=
((iter FUEL (share_amounts.loop1 a0) ((⟨.nil, 0, 0, false⟩, 0, 0), h)).bind fun (fl16, h15) => match fl16 with
| .next _ => none
| .ret rr17 => (some (rr17, h15))
| .ex0 (y18, y19) =>
(some ((y18, y19), h15))
| .ex1 _ => none)
def share_amounts.A : Ann := { lits := [], conds := [], loops := [(4, [4, 5, 10], [.leaf .slice, .leaf (.int .i64), .leaf (.int .i64)], [4, 5], [.leaf .slice, .leaf (.int .i64)], some 0, none)], regs := [], apps := [18] }
theorem share_amounts.eq : ∀ (x : TT [.leaf .slice]) (h : H), evalFn Try.prog (share_amounts.tb) share_amounts.A Try.f37 (.many [.leaf .slice, .leaf (.int .i64)]) (TT.un [.leaf .slice] x) h = share_amounts x h := by
  intro x h
  kernel_rfl
noncomputable def share_amounts.e : Entry := mkX [.leaf .slice] (.many [.leaf .slice, .leaf (.int .i64)]) fun x h => share_amounts x h
theorem share_amounts.ok : EntryOK Try.prog 37 (share_amounts.e) := mkX_ok (share_amounts.tbok) Try.mixed Try.func37 (by kernel_rfl) (share_amounts.eq)
noncomputable def share_amountsP (a0 : (List (Int × Int))) : Option ((List (Int)) × Int) := (share_amounts (rowSV false [.int .i64, .int .i64] a0) H.empty).bind fun p => rdRes false p.2 (.many [.leaf (.row [.int .i64]), .leaf (.int .i64)]) (Res.un (.many [.leaf .slice, .leaf (.int .i64)]) p.1)
theorem share_amountsP.eq : ∀ x : TT [.leaf (.row [.int .i64, .int .i64])], ((evalFn Try.prog (share_amounts.tb) share_amounts.A Try.f37 (.many [.leaf .slice, .leaf (.int .i64)]) (TT.lo false [.leaf (.row [.int .i64, .int .i64])] x) H.empty).bind fun p => rdRes false p.2 (.many [.leaf (.row [.int .i64]), .leaf (.int .i64)]) (Res.un (.many [.leaf .slice, .leaf (.int .i64)]) p.1)) = share_amountsP x := by
  intro x
  rw [show TT.lo false [.leaf (.row [.int .i64, .int .i64])] x = TT.un [.leaf .slice] ((rowSV false [.int .i64, .int .i64] x)) from rfl, share_amounts.eq]
  rfl
noncomputable def share_amountsP.e : Entry := mkP [.leaf (.row [.int .i64, .int .i64])] (.many [.leaf (.row [.int .i64]), .leaf (.int .i64)]) fun x => share_amountsP x
theorem share_amountsP.ok : EntryOK Try.prog 37 (share_amountsP.e) := mkP_ok (share_amounts.tbok) Try.mixed Try.func37 (by kernel_rfl) share_amountsP.eq

/-! ### spile/share.Sum: function 12 -/
noncomputable def share_Sum.tb : Table := tab [(18, share_CheckP.e), (37, share_amountsP.e)] [] Table.nil
theorem share_Sum.tbok : TabOK Try.prog (share_Sum.tb) := TabOK.tab (TabOK.nil Try.prog) (all_cons share_CheckP.ok (all_cons share_amountsP.ok (all_nil _))) (all_nil _)
noncomputable def share_Sum (a0 : SV) (h : H) : Option ((Int × Int) × H) :=
((rdRow true h [.int .i64, .int .i64] a0).bind fun s2 =>
((share_CheckP s2).bind fun r1 =>
(bif (!(decide (r1 = 0))) then (some ((0, 1), h)) else ((rdRow true h [.int .i64, .int .i64] a0).bind fun s5 =>
((share_amountsP s5).bind fun (r3, r4) =>
(some ((r4, 0), h)))))))
def share_Sum.A : Ann := { lits := [], conds := [], loops := [], regs := [] }
theorem share_Sum.eq : ∀ (x : TT [.leaf .slice]) (h : H), evalFn Try.prog (share_Sum.tb) share_Sum.A Try.f12 (.many [.leaf (.int .i64), .leaf (.int .i64)]) (TT.un [.leaf .slice] x) h = share_Sum x h := by
  intro x h
  kernel_rfl
noncomputable def share_Sum.e : Entry := mkX [.leaf .slice] (.many [.leaf (.int .i64), .leaf (.int .i64)]) fun x h => share_Sum x h
theorem share_Sum.ok : EntryOK Try.prog 12 (share_Sum.e) := mkX_ok (share_Sum.tbok) Try.mixed Try.func12 (by kernel_rfl) (share_Sum.eq)
noncomputable def share_SumP (a0 : (List (Int × Int))) : Option (Int × Int) := (share_Sum (rowSV false [.int .i64, .int .i64] a0) H.empty).bind fun p => rdRes false p.2 (.many [.leaf (.int .i64), .leaf (.int .i64)]) (Res.un (.many [.leaf (.int .i64), .leaf (.int .i64)]) p.1)
theorem share_SumP.eq : ∀ x : TT [.leaf (.row [.int .i64, .int .i64])], ((evalFn Try.prog (share_Sum.tb) share_Sum.A Try.f12 (.many [.leaf (.int .i64), .leaf (.int .i64)]) (TT.lo false [.leaf (.row [.int .i64, .int .i64])] x) H.empty).bind fun p => rdRes false p.2 (.many [.leaf (.int .i64), .leaf (.int .i64)]) (Res.un (.many [.leaf (.int .i64), .leaf (.int .i64)]) p.1)) = share_SumP x := by
  intro x
  rw [show TT.lo false [.leaf (.row [.int .i64, .int .i64])] x = TT.un [.leaf .slice] ((rowSV false [.int .i64, .int .i64] x)) from rfl, share_Sum.eq]
  rfl
noncomputable def share_SumP.e : Entry := mkP [.leaf (.row [.int .i64, .int .i64])] (.many [.leaf (.int .i64), .leaf (.int .i64)]) fun x => share_SumP x
theorem share_SumP.ok : EntryOK Try.prog 12 (share_SumP.e) := mkP_ok (share_Sum.tbok) Try.mixed Try.func12 (by kernel_rfl) share_SumP.eq

/-! ### slices.IndexFunc[[]int,int]: function 102 -/
noncomputable def slices_IndexFunc_int_int.tb (T : Table) : Table := tab [] [] T
theorem slices_IndexFunc_int_int.tbok (T : Table) (hT : TabOK Try.prog T) : TabOK Try.prog (slices_IndexFunc_int_int.tb T) := TabOK.tab (hT) (all_nil _) (all_nil _)
noncomputable def slices_IndexFunc_int_int.loop1 (T : Table) (a0 : SV) (a1 : V) : (Int) × H → Option (Stp ((Int) × H) (Flow (Unit) (Int) × H)) := fun (y1, h2) =>
(bif (decide (y1 < ((a0.len : Nat) : Int))) then (guardO (0 ≤ y1 ∧ y1 < ((a0.len : Nat) : Int)) ((rdT (.leaf (.int .i64)) h2 (V.add a0.a (Int.toNat y1 * 1))).bind fun x3 =>
(callV T.dy a1 [.int .i64 x3] h2 fun v4 h5 =>
(Res.pack (.one (.leaf .bool)) v4).bind fun r6 =>
(bif r6 then (some (.done (.ret y1, h5))) else (some (.more ((IntKind.wrap .i64 (y1 + 1)), h5))))))) else (some (.done (.ex0 (), h2))))
noncomputable def slices_IndexFunc_int_int (T : Table) (a0 : SV) (a1 : V) (h : H) : Option ((Int) × H) :=
((iter FUEL (slices_IndexFunc_int_int.loop1 T a0 a1) (0, h)).bind fun (fl8, h7) => match fl8 with
| .next _ => none
| .ret rr9 => (some (rr9, h7))
| .ex0 _ =>
(some ((-1), h7))
| .ex1 _ => none)
def slices_IndexFunc_int_int.A : Ann := { lits := [], conds := [], loops := [(2, [8], [.leaf (.int .i64)], [], [], some 0, none)], regs := [] }
theorem slices_IndexFunc_int_int.eq (T : Table) : ∀ (x : TT [.leaf .slice, .leaf .dyn]) (h : H), evalFn Try.prog (slices_IndexFunc_int_int.tb T) slices_IndexFunc_int_int.A Try.f102 (.one (.leaf (.int .i64))) (TT.un [.leaf .slice, .leaf .dyn] x) h = slices_IndexFunc_int_int T x.1 x.2 h := by
  intro x h
  kernel_rfl
noncomputable def slices_IndexFunc_int_int.e (T : Table) : Entry := mkX [.leaf .slice, .leaf .dyn] (.one (.leaf (.int .i64))) fun x h => slices_IndexFunc_int_int T x.1 x.2 h
theorem slices_IndexFunc_int_int.ok (T : Table) (hT : TabOK Try.prog T) : EntryOK Try.prog 102 (slices_IndexFunc_int_int.e T) := mkX_ok (slices_IndexFunc_int_int.tbok T hT) Try.mixed Try.func102 (by kernel_rfl) (slices_IndexFunc_int_int.eq T)

/-! ### slices.ContainsFunc[[]int,int]: function 91 -/
noncomputable def slices_ContainsFunc_int_int.tb (T : Table) : Table := tab [] [] T
theorem slices_ContainsFunc_int_int.tbok (T : Table) (hT : TabOK Try.prog T) : TabOK Try.prog (slices_ContainsFunc_int_int.tb T) := TabOK.tab (hT) (all_nil _) (all_nil _)
noncomputable def slices_ContainsFunc_int_int (T : Table) (a0 : SV) (a1 : V) (h : H) : Option ((Bool) × H) :=
((slices_IndexFunc_int_int (slices_ContainsFunc_int_int.tb T) a0 a1 h).bind fun (r1, h2) =>
(some ((decide ((0 : Int) ≤ r1)), h2)))
def slices_ContainsFunc_int_int.A : Ann := { lits := [], conds := [], loops := [], regs := [] }
noncomputable def slices_ContainsFunc_int_int.tc (T : Table) : Table := tab [(102, slices_IndexFunc_int_int.e (slices_ContainsFunc_int_int.tb T))] [] (slices_ContainsFunc_int_int.tb T)
theorem slices_ContainsFunc_int_int.tcok (T : Table) (hT : TabOK Try.prog T) : TabOK Try.prog (slices_ContainsFunc_int_int.tc T) := TabOK.tab (slices_ContainsFunc_int_int.tbok T hT) (all_cons (slices_IndexFunc_int_int.ok _ (slices_ContainsFunc_int_int.tbok T hT)) (all_nil _)) (all_nil _)
theorem slices_ContainsFunc_int_int.eq (T : Table) : ∀ (x : TT [.leaf .slice, .leaf .dyn]) (h : H), evalFn Try.prog (slices_ContainsFunc_int_int.tc T) slices_ContainsFunc_int_int.A Try.f91 (.one (.leaf .bool)) (TT.un [.leaf .slice, .leaf .dyn] x) h = slices_ContainsFunc_int_int T x.1 x.2 h := by
  intro x h
  kernel_rfl
noncomputable def slices_ContainsFunc_int_int.e (T : Table) : Entry := mkX [.leaf .slice, .leaf .dyn] (.one (.leaf .bool)) fun x h => slices_ContainsFunc_int_int T x.1 x.2 h
theorem slices_ContainsFunc_int_int.ok (T : Table) (hT : TabOK Try.prog T) : EntryOK Try.prog 91 (slices_ContainsFunc_int_int.e T) := mkX_ok (slices_ContainsFunc_int_int.tcok T hT) Try.mixed Try.func91 (by kernel_rfl) (slices_ContainsFunc_int_int.eq T)

/-! ### spile/proportion.amount: function 80 -/
noncomputable def proportion_amount.tb : Table := tab [] [] Table.nil
theorem proportion_amount.tbok : TabOK Try.prog (proportion_amount.tb) := TabOK.tab (TabOK.nil Try.prog) (all_nil _) (all_nil _)
noncomputable def proportion_amount (a0 : Int) (h : H) : Option ((Bool) × H) :=
(((bif (decide ((0 : Int) ≤ a0)) then (some ((decide (a0 ≤ 128849018880000)), h)) else (some (false, h)))).bind fun (y1, h2) =>
(some (y1, h2)))
def proportion_amount.A : Ann := { lits := [], conds := [], loops := [], regs := [(1, [2], [.leaf .bool])] }
theorem proportion_amount.eq : ∀ (x : TT [.leaf (.int .i64)]) (h : H), evalFn Try.prog (proportion_amount.tb) proportion_amount.A Try.f80 (.one (.leaf .bool)) (TT.un [.leaf (.int .i64)] x) h = proportion_amount x h := by
  intro x h
  kernel_rfl
noncomputable def proportion_amount.e : Entry := mkX [.leaf (.int .i64)] (.one (.leaf .bool)) fun x h => proportion_amount x h
theorem proportion_amount.ok : EntryOK Try.prog 80 (proportion_amount.e) := mkX_ok (proportion_amount.tbok) Try.mixed Try.func80 (by kernel_rfl) (proportion_amount.eq)
noncomputable def proportion_amountP (a0 : Int) : Option (Bool) := (proportion_amount a0 H.empty).bind fun p => rdRes false p.2 (.one (.leaf .bool)) (Res.un (.one (.leaf .bool)) p.1)
theorem proportion_amountP.eq : ∀ x : TT [.leaf (.int .i64)], ((evalFn Try.prog (proportion_amount.tb) proportion_amount.A Try.f80 (.one (.leaf .bool)) (TT.lo false [.leaf (.int .i64)] x) H.empty).bind fun p => rdRes false p.2 (.one (.leaf .bool)) (Res.un (.one (.leaf .bool)) p.1)) = proportion_amountP x := by
  intro x
  rw [show TT.lo false [.leaf (.int .i64)] x = TT.un [.leaf (.int .i64)] (x) from rfl, proportion_amount.eq]
  rfl
noncomputable def proportion_amountP.e : Entry := mkP [.leaf (.int .i64)] (.one (.leaf .bool)) fun x => proportion_amountP x
theorem proportion_amountP.ok : EntryOK Try.prog 80 (proportion_amountP.e) := mkP_ok (proportion_amount.tbok) Try.mixed Try.func80 (by kernel_rfl) proportion_amountP.eq

/-! ### spile/proportion.amounts$1: function 92 -/
noncomputable def proportion_amounts_1.tb : Table := tab [(80, proportion_amountP.e)] [] Table.nil
theorem proportion_amounts_1.tbok : TabOK Try.prog (proportion_amounts_1.tb) := TabOK.tab (TabOK.nil Try.prog) (all_cons proportion_amountP.ok (all_nil _)) (all_nil _)
noncomputable def proportion_amounts_1 (a0 : Int) (h : H) : Option ((Bool) × H) :=
((proportion_amountP a0).bind fun r1 =>
(some ((!r1), h)))
def proportion_amounts_1.A : Ann := { lits := [], conds := [], loops := [], regs := [] }
theorem proportion_amounts_1.eq : ∀ (x : TT [.leaf (.int .i64)]) (h : H), evalFn Try.prog (proportion_amounts_1.tb) proportion_amounts_1.A Try.f92 (.one (.leaf .bool)) (TT.un [.leaf (.int .i64)] x) h = proportion_amounts_1 x h := by
  intro x h
  kernel_rfl
noncomputable def proportion_amounts_1.e : Entry := mkX [.leaf (.int .i64)] (.one (.leaf .bool)) fun x h => proportion_amounts_1 x h
theorem proportion_amounts_1.ok : EntryOK Try.prog 92 (proportion_amounts_1.e) := mkX_ok (proportion_amounts_1.tbok) Try.mixed Try.func92 (by kernel_rfl) (proportion_amounts_1.eq)
noncomputable def proportion_amounts_1P (a0 : Int) : Option (Bool) := (proportion_amounts_1 a0 H.empty).bind fun p => rdRes false p.2 (.one (.leaf .bool)) (Res.un (.one (.leaf .bool)) p.1)
theorem proportion_amounts_1P.eq : ∀ x : TT [.leaf (.int .i64)], ((evalFn Try.prog (proportion_amounts_1.tb) proportion_amounts_1.A Try.f92 (.one (.leaf .bool)) (TT.lo false [.leaf (.int .i64)] x) H.empty).bind fun p => rdRes false p.2 (.one (.leaf .bool)) (Res.un (.one (.leaf .bool)) p.1)) = proportion_amounts_1P x := by
  intro x
  rw [show TT.lo false [.leaf (.int .i64)] x = TT.un [.leaf (.int .i64)] (x) from rfl, proportion_amounts_1.eq]
  rfl
noncomputable def proportion_amounts_1P.e : Entry := mkP [.leaf (.int .i64)] (.one (.leaf .bool)) fun x => proportion_amounts_1P x
theorem proportion_amounts_1P.ok : EntryOK Try.prog 92 (proportion_amounts_1P.e) := mkP_ok (proportion_amounts_1.tbok) Try.mixed Try.func92 (by kernel_rfl) proportion_amounts_1P.eq

/-! ### spile/proportion.amounts: function 78 -/
noncomputable def proportion_amounts.tb : Table := tab [] [(92, proportion_amounts_1P.e)] Table.nil
theorem proportion_amounts.tbok : TabOK Try.prog (proportion_amounts.tb) := TabOK.tab (TabOK.nil Try.prog) (all_nil _) (all_cons proportion_amounts_1P.ok (all_nil _))
noncomputable def proportion_amounts (a0 : SV) (h : H) : Option ((Bool) × H) :=
((slices_ContainsFunc_int_int proportion_amounts.tb a0 (.func 92 [] : V) h).bind fun (r1, h2) =>
(some ((!r1), h2)))
def proportion_amounts.A : Ann := { lits := [], conds := [], loops := [], regs := [] }
noncomputable def proportion_amounts.tc : Table := tab [(91, slices_ContainsFunc_int_int.e (proportion_amounts.tb))] [] (proportion_amounts.tb)
theorem proportion_amounts.tcok : TabOK Try.prog (proportion_amounts.tc) := TabOK.tab (proportion_amounts.tbok) (all_cons (slices_ContainsFunc_int_int.ok _ (proportion_amounts.tbok)) (all_nil _)) (all_nil _)
theorem proportion_amounts.eq : ∀ (x : TT [.leaf .slice]) (h : H), evalFn Try.prog (proportion_amounts.tc) proportion_amounts.A Try.f78 (.one (.leaf .bool)) (TT.un [.leaf .slice] x) h = proportion_amounts x h := by
  intro x h
  kernel_rfl
noncomputable def proportion_amounts.e : Entry := mkX [.leaf .slice] (.one (.leaf .bool)) fun x h => proportion_amounts x h
theorem proportion_amounts.ok : EntryOK Try.prog 78 (proportion_amounts.e) := mkX_ok (proportion_amounts.tcok) Try.mixed Try.func78 (by kernel_rfl) (proportion_amounts.eq)
noncomputable def proportion_amountsP (a0 : (List (Int))) : Option (Bool) := (proportion_amounts (rowSV false [.int .i64] a0) H.empty).bind fun p => rdRes false p.2 (.one (.leaf .bool)) (Res.un (.one (.leaf .bool)) p.1)
theorem proportion_amountsP.eq : ∀ x : TT [.leaf (.row [.int .i64])], ((evalFn Try.prog (proportion_amounts.tc) proportion_amounts.A Try.f78 (.one (.leaf .bool)) (TT.lo false [.leaf (.row [.int .i64])] x) H.empty).bind fun p => rdRes false p.2 (.one (.leaf .bool)) (Res.un (.one (.leaf .bool)) p.1)) = proportion_amountsP x := by
  intro x
  rw [show TT.lo false [.leaf (.row [.int .i64])] x = TT.un [.leaf .slice] ((rowSV false [.int .i64] x)) from rfl, proportion_amounts.eq]
  rfl
noncomputable def proportion_amountsP.e : Entry := mkP [.leaf (.row [.int .i64])] (.one (.leaf .bool)) fun x => proportion_amountsP x
theorem proportion_amountsP.ok : EntryOK Try.prog 78 (proportion_amountsP.e) := mkP_ok (proportion_amounts.tcok) Try.mixed Try.func78 (by kernel_rfl) proportion_amountsP.eq

/-! ### spile/proportion.weigh: function 61 -/
noncomputable def proportion_weigh.tb : Table := tab [(78, proportion_amountsP.e), (80, proportion_amountP.e)] [] Table.nil
theorem proportion_weigh.tbok : TabOK Try.prog (proportion_weigh.tb) := TabOK.tab (TabOK.nil Try.prog) (all_cons proportion_amountsP.ok (all_cons proportion_amountP.ok (all_nil _))) (all_nil _)
noncomputable def proportion_weigh.loop1 (a1 : SV) : (Int × Int) × H → Option (Stp ((Int × Int) × H) (Flow (Int) (Int × Int) × H)) := fun ((y4, y5), h6) =>
(bif (decide (y5 < ((a1.len : Nat) : Int))) then (guardO (0 ≤ y5 ∧ y5 < ((a1.len : Nat) : Int)) ((rdT (.leaf (.int .i64)) h6 (V.add a1.a (Int.toNat y5 * 1))).bind fun x7 =>
(some (.more (((IntKind.wrap .i64 (y4 + x7)), (IntKind.wrap .i64 (y5 + 1))), h6))))) else (some (.done (.ex0 y4, h6))))
noncomputable def proportion_weigh (a0 : Int) (a1 : SV) (h : H) : Option ((Int × Int) × H) :=
((proportion_amountP a0).bind fun r1 =>
(bif (!r1) then (some ((0, 2), h)) else (bif (decide (((a1.len : Nat) : Int) = 0)) then (some ((0, 9), h)) else (bif (decide ((64 : Int) < ((a1.len : Nat) : Int))) then (some ((0, 8), h)) else ((rdRow true h [.int .i64] a1).bind fun s3 =>
((proportion_amountsP s3).bind fun r2 =>
(bif (!r2) then (some ((0, 2), h)) else ((iter FUEL (proportion_weigh.loop1 a1) ((0, 0), h)).bind fun (fl9, h8) => match fl9 with
| .next _ => none
| .ret rr10 => (some (rr10, h8))
| .ex0 y11 =>
((proportion_amountP y11).bind fun r12 =>
(bif (!r12) then (some ((0, 2), h8)) else (bif (decide (y11 = 0)) then (some ((0, 16), h8)) else (some ((y11, 0), h8)))))
| .ex1 _ => none))))))))
def proportion_weigh.A : Ann := { lits := [], conds := [], loops := [(11, [6, 27], [.leaf (.int .i64), .leaf (.int .i64)], [6], [.leaf (.int .i64)], some 1, none)], regs := [] }
theorem proportion_weigh.eq : ∀ (x : TT [.leaf (.int .i64), .leaf .slice]) (h : H), evalFn Try.prog (proportion_weigh.tb) proportion_weigh.A Try.f61 (.many [.leaf (.int .i64), .leaf (.int .i64)]) (TT.un [.leaf (.int .i64), .leaf .slice] x) h = proportion_weigh x.1 x.2 h := by
  intro x h
  kernel_rfl
noncomputable def proportion_weigh.e : Entry := mkX [.leaf (.int .i64), .leaf .slice] (.many [.leaf (.int .i64), .leaf (.int .i64)]) fun x h => proportion_weigh x.1 x.2 h
theorem proportion_weigh.ok : EntryOK Try.prog 61 (proportion_weigh.e) := mkX_ok (proportion_weigh.tbok) Try.mixed Try.func61 (by kernel_rfl) (proportion_weigh.eq)
noncomputable def proportion_weighP (a0 : Int) (a1 : (List (Int))) : Option (Int × Int) := (proportion_weigh a0 (rowSV false [.int .i64] a1) H.empty).bind fun p => rdRes false p.2 (.many [.leaf (.int .i64), .leaf (.int .i64)]) (Res.un (.many [.leaf (.int .i64), .leaf (.int .i64)]) p.1)
theorem proportion_weighP.eq : ∀ x : TT [.leaf (.int .i64), .leaf (.row [.int .i64])], ((evalFn Try.prog (proportion_weigh.tb) proportion_weigh.A Try.f61 (.many [.leaf (.int .i64), .leaf (.int .i64)]) (TT.lo false [.leaf (.int .i64), .leaf (.row [.int .i64])] x) H.empty).bind fun p => rdRes false p.2 (.many [.leaf (.int .i64), .leaf (.int .i64)]) (Res.un (.many [.leaf (.int .i64), .leaf (.int .i64)]) p.1)) = proportion_weighP x.1 x.2 := by
  intro x
  rw [show TT.lo false [.leaf (.int .i64), .leaf (.row [.int .i64])] x = TT.un [.leaf (.int .i64), .leaf .slice] (x.1, (rowSV false [.int .i64] x.2)) from rfl, proportion_weigh.eq]
  rfl
noncomputable def proportion_weighP.e : Entry := mkP [.leaf (.int .i64), .leaf (.row [.int .i64])] (.many [.leaf (.int .i64), .leaf (.int .i64)]) fun x => proportion_weighP x.1 x.2
theorem proportion_weighP.ok : EntryOK Try.prog 61 (proportion_weighP.e) := mkP_ok (proportion_weigh.tbok) Try.mixed Try.func61 (by kernel_rfl) proportion_weighP.eq

/-! ### math/bits.Mul64: function 93 -/
noncomputable def math_bits_Mul64.tb : Table := tab [] [] Table.nil
theorem math_bits_Mul64.tbok : TabOK Try.prog (math_bits_Mul64.tb) := TabOK.tab (TabOK.nil Try.prog) (all_nil _) (all_nil _)
noncomputable def math_bits_Mul64 (a0 : Int) (a1 : Int) (h : H) : Option ((Int × Int) × H) :=
(some (((IntKind.wrap .u64 ((IntKind.wrap .u64 ((IntKind.wrap .u64 ((Int.fdiv a0 (2 ^ (min (Int.toNat 32) (IntKind.bits .u64)))) * (Int.fdiv a1 (2 ^ (min (Int.toNat 32) (IntKind.bits .u64)))))) + (Int.fdiv (IntKind.wrap .u64 ((IntKind.wrap .u64 ((Int.fdiv a0 (2 ^ (min (Int.toNat 32) (IntKind.bits .u64)))) * (bitsI .and .u64 a1 4294967295))) + (Int.fdiv (IntKind.wrap .u64 ((bitsI .and .u64 a0 4294967295) * (bitsI .and .u64 a1 4294967295))) (2 ^ (min (Int.toNat 32) (IntKind.bits .u64)))))) (2 ^ (min (Int.toNat 32) (IntKind.bits .u64)))))) + (Int.fdiv (IntKind.wrap .u64 ((bitsI .and .u64 (IntKind.wrap .u64 ((IntKind.wrap .u64 ((Int.fdiv a0 (2 ^ (min (Int.toNat 32) (IntKind.bits .u64)))) * (bitsI .and .u64 a1 4294967295))) + (Int.fdiv (IntKind.wrap .u64 ((bitsI .and .u64 a0 4294967295) * (bitsI .and .u64 a1 4294967295))) (2 ^ (min (Int.toNat 32) (IntKind.bits .u64)))))) 4294967295) + (IntKind.wrap .u64 ((bitsI .and .u64 a0 4294967295) * (Int.fdiv a1 (2 ^ (min (Int.toNat 32) (IntKind.bits .u64)))))))) (2 ^ (min (Int.toNat 32) (IntKind.bits .u64)))))), (IntKind.wrap .u64 (a0 * a1))), h))
def math_bits_Mul64.A : Ann := { lits := [], conds := [], loops := [], regs := [] }
theorem math_bits_Mul64.eq : ∀ (x : TT [.leaf (.int .u64), .leaf (.int .u64)]) (h : H), evalFn Try.prog (math_bits_Mul64.tb) math_bits_Mul64.A Try.f93 (.many [.leaf (.int .u64), .leaf (.int .u64)]) (TT.un [.leaf (.int .u64), .leaf (.int .u64)] x) h = math_bits_Mul64 x.1 x.2 h := by
  intro x h
  kernel_rfl
noncomputable def math_bits_Mul64.e : Entry := mkX [.leaf (.int .u64), .leaf (.int .u64)] (.many [.leaf (.int .u64), .leaf (.int .u64)]) fun x h => math_bits_Mul64 x.1 x.2 h
theorem math_bits_Mul64.ok : EntryOK Try.prog 93 (math_bits_Mul64.e) := mkX_ok (math_bits_Mul64.tbok) Try.mixed Try.func93 (by kernel_rfl) (math_bits_Mul64.eq)
noncomputable def math_bits_Mul64P (a0 : Int) (a1 : Int) : Option (Int × Int) := (math_bits_Mul64 a0 a1 H.empty).bind fun p => rdRes false p.2 (.many [.leaf (.int .u64), .leaf (.int .u64)]) (Res.un (.many [.leaf (.int .u64), .leaf (.int .u64)]) p.1)
theorem math_bits_Mul64P.eq : ∀ x : TT [.leaf (.int .u64), .leaf (.int .u64)], ((evalFn Try.prog (math_bits_Mul64.tb) math_bits_Mul64.A Try.f93 (.many [.leaf (.int .u64), .leaf (.int .u64)]) (TT.lo false [.leaf (.int .u64), .leaf (.int .u64)] x) H.empty).bind fun p => rdRes false p.2 (.many [.leaf (.int .u64), .leaf (.int .u64)]) (Res.un (.many [.leaf (.int .u64), .leaf (.int .u64)]) p.1)) = math_bits_Mul64P x.1 x.2 := by
  intro x
  rw [show TT.lo false [.leaf (.int .u64), .leaf (.int .u64)] x = TT.un [.leaf (.int .u64), .leaf (.int .u64)] (x.1, x.2) from rfl, math_bits_Mul64.eq]
  rfl
noncomputable def math_bits_Mul64P.e : Entry := mkP [.leaf (.int .u64), .leaf (.int .u64)] (.many [.leaf (.int .u64), .leaf (.int .u64)]) fun x => math_bits_Mul64P x.1 x.2
theorem math_bits_Mul64P.ok : EntryOK Try.prog 93 (math_bits_Mul64P.e) := mkP_ok (math_bits_Mul64.tbok) Try.mixed Try.func93 (by kernel_rfl) math_bits_Mul64P.eq
end Go.Proofs.Ytbcpdecgfdlaaaa
