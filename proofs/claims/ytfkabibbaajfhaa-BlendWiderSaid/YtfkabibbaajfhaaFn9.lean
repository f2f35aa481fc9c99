/- The functions of the program as Lean functions, each with the equation by which the evaluator is that function. Written by a program of this session (evdrive.py). Conditions: none. -/
import Derived.Test.YtfkabibbaajfhaaProg
import Derived.Test.YtfkabibbaajfhaaEvSpec
import Derived.Test.YtfkabibbaajfhaaFn8
namespace Go.Proofs.Ytfkabibbaajfhaa
open Go Go.Proofs.Ytfkabibbaajfhaa.Ev
set_option maxRecDepth 100000
set_option linter.unusedVariables false
/-! ### spile/spilelaw29.BlendSums: function 6 -/
noncomputable def spilelaw29_BlendSums.tb : Table := tab [(9, spilelaw29_awakeP.e), (10, spileref16_FewP.e), (21, blend_OfP.e), (26, mix_SumP.e), (27, mix_BetweenP.e), (28, alcohol_StrengthP.e)] [] Table.nil
theorem spilelaw29_BlendSums.tbok : TabOK Try.prog (spilelaw29_BlendSums.tb) := TabOK.tab (TabOK.nil Try.prog) (all_cons spilelaw29_awakeP.ok (all_cons spileref16_FewP.ok (all_cons blend_OfP.ok (all_cons mix_SumP.ok (all_cons mix_BetweenP.ok (all_cons alcohol_StrengthP.ok (all_nil _))))))) (all_nil _)
noncomputable def spilelaw29_BlendSums.loop1 (h : H) (a2 : SV) : (SV × Int) × H → Option (Stp ((SV × Int) × H) (Flow (SV) (Bool) × H)) := fun ((y19, y20), h21) =>
(bif (decide (y20 < ((a2.len : Nat) : Int))) then (guardO (0 ≤ y20 ∧ y20 < ((a2.len : Nat) : Int)) ((rdT (.leaf (.int .i64)) h21 (V.add a2.a (Int.toNat y20 * 1))).bind fun x22 =>
(let h23 : H := H.reserve h21 0
((rdT (.leaf .slice) h23 (.hp h.next 6 0)).bind fun x24 =>
(guardO (0 ≤ y20 ∧ y20 < ((x24.len : Nat) : Int)) (guardO (V.nn ((V.add x24.a (Int.toNat y20 * 2)) : V) = true) ((rdT (.leaf (.int .i64)) h23 (V.add (V.add x24.a (Int.toNat y20 * 2)) 0)).bind fun x25 =>
((rdT (.leaf .slice) h23 (.hp h.next 6 0)).bind fun x26 =>
(guardO (0 ≤ y20 ∧ y20 < ((x26.len : Nat) : Int)) (guardO (V.nn ((V.add x26.a (Int.toNat y20 * 2)) : V) = true) ((rdT (.leaf (.int .i64)) h23 (V.add (V.add x26.a (Int.toNat y20 * 2)) 1)).bind fun x27 =>
((appendS h23 none 2 16 y19 [.int .i64 (IntKind.wrap .i64 (x22 * x25)), .int .i64 (IntKind.wrap .i64 (x22 * x27))] 1).bind fun (s30, h29) =>
(some (.more ((s30, (IntKind.wrap .i64 (y20 + 1))), h29))))))))))))))) else (some (.done (.ex0 y19, h21))))
noncomputable def spilelaw29_BlendSums (a0 : SV) (a1 : (SV × SV × SV × Int × Int × Int)) (a2 : SV) (h : H) : Option ((Bool) × H) :=
(match a1 with
| (a1_0, a1_1, a1_2, a1_3, a1_4, a1_5) =>
(let h1 : H := H.new h [.slice a1_0.a a1_0.len a1_0.cap a1_0.tail, .slice a1_1.a a1_1.len a1_1.cap a1_1.tail, .slice a1_2.a a1_2.len a1_2.cap a1_2.tail, .int .i64 a1_3, .int .i64 a1_4, .int .i64 a1_5] 6
((spilelaw29_awakeP ).bind fun r2 =>
(bif (!r2) then (some (false, h1)) else ((((rdRow true h1 [.int .i64, .int .i64] a0).bind fun s4 =>
((spileref16_FewP s4).bind fun r3 =>
(bif !(!r3) then ((rdT (.leaf .slice) h1 (.hp h.next 6 0)).bind fun x5 =>
(bif !(decide ((8 : Int) < ((x5.len : Nat) : Int))) then (some ((decide ((8 : Int) < ((a2.len : Nat) : Int))), h1)) else (some (true, h1)))) else (some (true, h1)))))).bind fun (y6, h7) =>
(bif y6 then (some (true, h7)) else ((rdT (.agg [.slice, .slice, .slice, .int .i64, .int .i64, .int .i64]) h7 (.hp h.next 6 0)).bind fun (x8_0, x8_1, x8_2, x8_3, x8_4, x8_5) =>
((rdRow true h7 [.int .i64, .int .i64] x8_0).bind fun s11 =>
((rdRow true h7 [.int .i64] x8_1).bind fun s12 =>
((rdRow true h7 [.int .i64] x8_2).bind fun s13 =>
((rdRow true h7 [.int .i64] a2).bind fun s14 =>
((blend_OfP (s11, s12, s13, x8_3, x8_4, x8_5) s14).bind fun ((r9_0, r9_1), r10) =>
(let h15 : H := H.new h7 [.int .i64 0, .int .i64 0] 2
((H.wrs h15 (.hp h7.next 2 0) [.int .i64 r9_0, .int .i64 r9_1]).bind fun h16 =>
(bif (!(decide (r10 = 0))) then ((rdT (.agg [.int .i64, .int .i64]) h16 (.hp h7.next 2 0)).bind fun (x17_0, x17_1) =>
(some ((decide (x17_0 = 0) && (decide (x17_1 = 0))), h16))) else ((rdT (.leaf .slice) h16 (.hp h.next 6 0)).bind fun x18 =>
(bif (!(decide (((a2.len : Nat) : Int) = ((x18.len : Nat) : Int)))) then (some (false, h16)) else ((iter FUEL (spilelaw29_BlendSums.loop1 h a2) ((⟨.nil, 0, 0, false⟩, 0), h16)).bind fun (fl33, h32) => match fl33 with
| .next _ => none
| .ret rr34 => (some (rr34, h32))
| .ex0 y35 =>
((rdRow true h32 [.int .i64, .int .i64] y35).bind fun s38 =>
((mix_SumP s38).bind fun ((r36_0, r36_1), r37) =>
(let h39 : H := H.new h32 [.int .i64 0, .int .i64 0] 2
((H.wrs h39 (.hp h32.next 2 0) [.int .i64 r36_0, .int .i64 r36_1]).bind fun h40 =>
(((bif !(!(decide (r37 = 0))) then ((rdT (.agg [.int .i64, .int .i64]) h40 (.hp h32.next 2 0)).bind fun (x41_0, x41_1) =>
((rdT (.agg [.int .i64, .int .i64]) h40 (.hp h7.next 2 0)).bind fun (x42_0, x42_1) =>
(some ((!(decide (x41_0 = x42_0) && (decide (x41_1 = x42_1)))), h40)))) else (some (true, h40)))).bind fun (y43, h44) =>
(bif y43 then (some (false, h44)) else ((rdRow true h44 [.int .i64, .int .i64] a0).bind fun s48 =>
((rdRow true h44 [.int .i64, .int .i64] y35).bind fun s49 =>
((mix_BetweenP s48 s49).bind fun ((r45_0, r45_1), r46, r47) =>
(let h50 : H := H.new h44 [.int .i64 0, .int .i64 0] 2
((H.wrs h50 (.hp h44.next 2 0) [.int .i64 r45_0, .int .i64 r45_1]).bind fun h51 =>
(bif (!(decide (r47 = 0))) then (some (true, h51)) else ((rdT (.agg [.int .i64, .int .i64]) h51 (.hp h7.next 2 0)).bind fun (x52_0, x52_1) =>
((rdRow true h51 [.int .i64, .int .i64] a0).bind fun s55 =>
((alcohol_StrengthP s55 (x52_0, x52_1)).bind fun (r53, r54) =>
(((bif (decide (r54 = 0)) then (bif (decide (r53 = r46)) then ((rdT (.leaf (.int .i64)) h51 (.hp h44.next 2 0)).bind fun x56 =>
(bif (decide (x56 ≤ r53)) then ((rdT (.leaf (.int .i64)) h51 (.hp h44.next 2 1)).bind fun x57 =>
(some ((decide (r53 ≤ x57)), h51))) else (some (false, h51)))) else (some (false, h51))) else (some (false, h51)))).bind fun (y58, h59) =>
(some (y58, h59))))))))))))))))))
| .ex1 _ => none))))))))))))))))))
def spilelaw29_BlendSums.A : Ann := { lits := [], conds := [], loops := [(12, [9, 54], [.leaf .slice, .leaf (.int .i64)], [9], [.leaf .slice], some 0, none)], regs := [(3, [34], [.leaf .bool]), (17, [91], [.leaf .bool]), (23, [6], [.leaf .bool])] }
theorem spilelaw29_BlendSums.eq : ∀ (x : TT [.leaf .slice, .agg [.slice, .slice, .slice, .int .i64, .int .i64, .int .i64], .leaf .slice]) (h : H), evalFn Try.prog (spilelaw29_BlendSums.tb) spilelaw29_BlendSums.A Try.f6 (.one (.leaf .bool)) (TT.un [.leaf .slice, .agg [.slice, .slice, .slice, .int .i64, .int .i64, .int .i64], .leaf .slice] x) h = spilelaw29_BlendSums x.1 x.2.1 x.2.2 h := by
  intro x h
  kernel_rfl
noncomputable def spilelaw29_BlendSums.e : Entry := mkX [.leaf .slice, .agg [.slice, .slice, .slice, .int .i64, .int .i64, .int .i64], .leaf .slice] (.one (.leaf .bool)) fun x h => spilelaw29_BlendSums x.1 x.2.1 x.2.2 h
theorem spilelaw29_BlendSums.ok : EntryOK Try.prog 6 (spilelaw29_BlendSums.e) := mkX_ok (spilelaw29_BlendSums.tbok) Try.mixed Try.func6 (by kernel_rfl) (spilelaw29_BlendSums.eq)
noncomputable def spilelaw29_BlendSumsP (a0 : (List (Int × Int))) (a1 : ((List (Int × Int)) × (List (Int)) × (List (Int)) × Int × Int × Int)) (a2 : (List (Int))) : Option (Bool) := (spilelaw29_BlendSums (rowSV false [.int .i64, .int .i64] a0) (rowSV false [.int .i64, .int .i64] a1.1, rowSV false [.int .i64] a1.2.1, rowSV false [.int .i64] a1.2.2.1, a1.2.2.2.1, a1.2.2.2.2.1, a1.2.2.2.2.2) (rowSV false [.int .i64] a2) H.empty).bind fun p => rdRes false p.2 (.one (.leaf .bool)) (Res.un (.one (.leaf .bool)) p.1)
theorem spilelaw29_BlendSumsP.eq : ∀ x : TT [.leaf (.row [.int .i64, .int .i64]), .agg [.row [.int .i64, .int .i64], .row [.int .i64], .row [.int .i64], .int .i64, .int .i64, .int .i64], .leaf (.row [.int .i64])], ((evalFn Try.prog (spilelaw29_BlendSums.tb) spilelaw29_BlendSums.A Try.f6 (.one (.leaf .bool)) (TT.lo false [.leaf (.row [.int .i64, .int .i64]), .agg [.row [.int .i64, .int .i64], .row [.int .i64], .row [.int .i64], .int .i64, .int .i64, .int .i64], .leaf (.row [.int .i64])] x) H.empty).bind fun p => rdRes false p.2 (.one (.leaf .bool)) (Res.un (.one (.leaf .bool)) p.1)) = spilelaw29_BlendSumsP x.1 x.2.1 x.2.2 := by
  intro x
  rw [show TT.lo false [.leaf (.row [.int .i64, .int .i64]), .agg [.row [.int .i64, .int .i64], .row [.int .i64], .row [.int .i64], .int .i64, .int .i64, .int .i64], .leaf (.row [.int .i64])] x = TT.un [.leaf .slice, .agg [.slice, .slice, .slice, .int .i64, .int .i64, .int .i64], .leaf .slice] ((rowSV false [.int .i64, .int .i64] x.1), (rowSV false [.int .i64, .int .i64] x.2.1.1, rowSV false [.int .i64] x.2.1.2.1, rowSV false [.int .i64] x.2.1.2.2.1, x.2.1.2.2.2.1, x.2.1.2.2.2.2.1, x.2.1.2.2.2.2.2), (rowSV false [.int .i64] x.2.2)) from rfl, spilelaw29_BlendSums.eq]
  rfl
noncomputable def spilelaw29_BlendSumsP.e : Entry := mkP [.leaf (.row [.int .i64, .int .i64]), .agg [.row [.int .i64, .int .i64], .row [.int .i64], .row [.int .i64], .int .i64, .int .i64, .int .i64], .leaf (.row [.int .i64])] (.one (.leaf .bool)) fun x => spilelaw29_BlendSumsP x.1 x.2.1 x.2.2
theorem spilelaw29_BlendSumsP.ok : EntryOK Try.prog 6 (spilelaw29_BlendSumsP.e) := mkP_ok (spilelaw29_BlendSums.tbok) Try.mixed Try.func6 (by kernel_rfl) spilelaw29_BlendSumsP.eq

/-! ### spile/spilelaw29.cost: function 29 -/
noncomputable def spilelaw29_cost.tb : Table := tab [] [] Table.nil
theorem spilelaw29_cost.tbok : TabOK Try.prog (spilelaw29_cost.tb) := TabOK.tab (TabOK.nil Try.prog) (all_nil _) (all_nil _)
noncomputable def spilelaw29_cost.loop1 (h : H) (a1 : SV) : (Int × Int) × H → Option (Stp ((Int × Int) × H) (Flow (Int) (Int) × H)) := fun ((y2, y3), h4) =>
(bif (decide (y3 < ((a1.len : Nat) : Int))) then (guardO (0 ≤ y3 ∧ y3 < ((a1.len : Nat) : Int)) ((rdT (.leaf (.int .i64)) h4 (V.add a1.a (Int.toNat y3 * 1))).bind fun x5 =>
((rdT (.leaf .slice) h4 (.hp h.next 6 2)).bind fun x6 =>
(bif (decide (((x6.len : Nat) : Int) ≤ y3)) then (some (.done (.ret (-1), h4))) else ((rdT (.leaf .slice) h4 (.hp h.next 6 2)).bind fun x7 =>
(guardO (0 ≤ y3 ∧ y3 < ((x7.len : Nat) : Int)) ((rdT (.leaf (.int .i64)) h4 (V.add x7.a (Int.toNat y3 * 1))).bind fun x8 =>
(some (.more (((IntKind.wrap .i64 (y2 + (IntKind.wrap .i64 (x5 * x8)))), (IntKind.wrap .i64 (y3 + 1))), h4)))))))))) else (some (.done (.ex0 y2, h4))))
noncomputable def spilelaw29_cost (a0 : (SV × SV × SV × Int × Int × Int)) (a1 : SV) (h : H) : Option ((Int) × H) :=
(match a0 with
| (a0_0, a0_1, a0_2, a0_3, a0_4, a0_5) =>
(let h1 : H := H.new h [.slice a0_0.a a0_0.len a0_0.cap a0_0.tail, .slice a0_1.a a0_1.len a0_1.cap a0_1.tail, .slice a0_2.a a0_2.len a0_2.cap a0_2.tail, .int .i64 a0_3, .int .i64 a0_4, .int .i64 a0_5] 6
((iter FUEL (spilelaw29_cost.loop1 h a1) ((0, 0), h1)).bind fun (fl10, h9) => match fl10 with
| .next _ => none
| .ret rr11 => (some (rr11, h9))
| .ex0 y12 =>
(some (y12, h9))
| .ex1 _ => none)))
def spilelaw29_cost.A : Ann := { lits := [], conds := [], loops := [(3, [5, 10], [.leaf (.int .i64), .leaf (.int .i64)], [5], [.leaf (.int .i64)], some 0, none)], regs := [] }
theorem spilelaw29_cost.eq : ∀ (x : TT [.agg [.slice, .slice, .slice, .int .i64, .int .i64, .int .i64], .leaf .slice]) (h : H), evalFn Try.prog (spilelaw29_cost.tb) spilelaw29_cost.A Try.f29 (.one (.leaf (.int .i64))) (TT.un [.agg [.slice, .slice, .slice, .int .i64, .int .i64, .int .i64], .leaf .slice] x) h = spilelaw29_cost x.1 x.2 h := by
  intro x h
  kernel_rfl
noncomputable def spilelaw29_cost.e : Entry := mkX [.agg [.slice, .slice, .slice, .int .i64, .int .i64, .int .i64], .leaf .slice] (.one (.leaf (.int .i64))) fun x h => spilelaw29_cost x.1 x.2 h
theorem spilelaw29_cost.ok : EntryOK Try.prog 29 (spilelaw29_cost.e) := mkX_ok (spilelaw29_cost.tbok) Try.mixed Try.func29 (by kernel_rfl) (spilelaw29_cost.eq)
noncomputable def spilelaw29_costP (a0 : ((List (Int × Int)) × (List (Int)) × (List (Int)) × Int × Int × Int)) (a1 : (List (Int))) : Option (Int) := (spilelaw29_cost (rowSV false [.int .i64, .int .i64] a0.1, rowSV false [.int .i64] a0.2.1, rowSV false [.int .i64] a0.2.2.1, a0.2.2.2.1, a0.2.2.2.2.1, a0.2.2.2.2.2) (rowSV false [.int .i64] a1) H.empty).bind fun p => rdRes false p.2 (.one (.leaf (.int .i64))) (Res.un (.one (.leaf (.int .i64))) p.1)
theorem spilelaw29_costP.eq : ∀ x : TT [.agg [.row [.int .i64, .int .i64], .row [.int .i64], .row [.int .i64], .int .i64, .int .i64, .int .i64], .leaf (.row [.int .i64])], ((evalFn Try.prog (spilelaw29_cost.tb) spilelaw29_cost.A Try.f29 (.one (.leaf (.int .i64))) (TT.lo false [.agg [.row [.int .i64, .int .i64], .row [.int .i64], .row [.int .i64], .int .i64, .int .i64, .int .i64], .leaf (.row [.int .i64])] x) H.empty).bind fun p => rdRes false p.2 (.one (.leaf (.int .i64))) (Res.un (.one (.leaf (.int .i64))) p.1)) = spilelaw29_costP x.1 x.2 := by
  intro x
  rw [show TT.lo false [.agg [.row [.int .i64, .int .i64], .row [.int .i64], .row [.int .i64], .int .i64, .int .i64, .int .i64], .leaf (.row [.int .i64])] x = TT.un [.agg [.slice, .slice, .slice, .int .i64, .int .i64, .int .i64], .leaf .slice] ((rowSV false [.int .i64, .int .i64] x.1.1, rowSV false [.int .i64] x.1.2.1, rowSV false [.int .i64] x.1.2.2.1, x.1.2.2.2.1, x.1.2.2.2.2.1, x.1.2.2.2.2.2), (rowSV false [.int .i64] x.2)) from rfl, spilelaw29_cost.eq]
  rfl
noncomputable def spilelaw29_costP.e : Entry := mkP [.agg [.row [.int .i64, .int .i64], .row [.int .i64], .row [.int .i64], .int .i64, .int .i64, .int .i64], .leaf (.row [.int .i64])] (.one (.leaf (.int .i64))) fun x => spilelaw29_costP x.1 x.2
theorem spilelaw29_costP.ok : EntryOK Try.prog 29 (spilelaw29_costP.e) := mkP_ok (spilelaw29_cost.tbok) Try.mixed Try.func29 (by kernel_rfl) spilelaw29_costP.eq

/-! ### cmp.isNaN[int]: function 83 -/
noncomputable def cmp_isNaN_int.tb : Table := tab [] [] Table.nil
theorem cmp_isNaN_int.tbok : TabOK Try.prog (cmp_isNaN_int.tb) := TabOK.tab (TabOK.nil Try.prog) (all_nil _) (all_nil _)
noncomputable def cmp_isNaN_int (a0 : Int) (h : H) : Option ((Bool) × H) :=
(some ((!(decide (a0 = a0))), h))
def cmp_isNaN_int.A : Ann := { lits := [], conds := [], loops := [], regs := [] }
theorem cmp_isNaN_int.eq : ∀ (x : TT [.leaf (.int .i64)]) (h : H), evalFn Try.prog (cmp_isNaN_int.tb) cmp_isNaN_int.A Try.f83 (.one (.leaf .bool)) (TT.un [.leaf (.int .i64)] x) h = cmp_isNaN_int x h := by
  intro x h
  kernel_rfl
noncomputable def cmp_isNaN_int.e : Entry := mkX [.leaf (.int .i64)] (.one (.leaf .bool)) fun x h => cmp_isNaN_int x h
theorem cmp_isNaN_int.ok : EntryOK Try.prog 83 (cmp_isNaN_int.e) := mkX_ok (cmp_isNaN_int.tbok) Try.mixed Try.func83 (by kernel_rfl) (cmp_isNaN_int.eq)
noncomputable def cmp_isNaN_intP (a0 : Int) : Option (Bool) := (cmp_isNaN_int a0 H.empty).bind fun p => rdRes false p.2 (.one (.leaf .bool)) (Res.un (.one (.leaf .bool)) p.1)
theorem cmp_isNaN_intP.eq : ∀ x : TT [.leaf (.int .i64)], ((evalFn Try.prog (cmp_isNaN_int.tb) cmp_isNaN_int.A Try.f83 (.one (.leaf .bool)) (TT.lo false [.leaf (.int .i64)] x) H.empty).bind fun p => rdRes false p.2 (.one (.leaf .bool)) (Res.un (.one (.leaf .bool)) p.1)) = cmp_isNaN_intP x := by
  intro x
  rw [show TT.lo false [.leaf (.int .i64)] x = TT.un [.leaf (.int .i64)] (x) from rfl, cmp_isNaN_int.eq]
  rfl
noncomputable def cmp_isNaN_intP.e : Entry := mkP [.leaf (.int .i64)] (.one (.leaf .bool)) fun x => cmp_isNaN_intP x
theorem cmp_isNaN_intP.ok : EntryOK Try.prog 83 (cmp_isNaN_intP.e) := mkP_ok (cmp_isNaN_int.tbok) Try.mixed Try.func83 (by kernel_rfl) cmp_isNaN_intP.eq

/-! ### cmp.Compare[int]: function 68 -/
noncomputable def cmp_Compare_int.tb : Table := tab [(83, cmp_isNaN_intP.e)] [] Table.nil
theorem cmp_Compare_int.tbok : TabOK Try.prog (cmp_Compare_int.tb) := TabOK.tab (TabOK.nil Try.prog) (all_cons cmp_isNaN_intP.ok (all_nil _)) (all_nil _)
noncomputable def cmp_Compare_int (a0 : Int) (a1 : Int) (h : H) : Option ((Int) × H) :=
((cmp_isNaN_intP a0).bind fun r1 =>
((cmp_isNaN_intP a1).bind fun r2 =>
(bif r1 then (bif r2 then (some (0, h)) else (some ((-1), h))) else (bif r2 then (some (1, h)) else (bif (decide (a0 < a1)) then (some ((-1), h)) else (bif (decide (a1 < a0)) then (some (1, h)) else (some (0, h))))))))
def cmp_Compare_int.A : Ann := { lits := [], conds := [], loops := [], regs := [] }
theorem cmp_Compare_int.eq : ∀ (x : TT [.leaf (.int .i64), .leaf (.int .i64)]) (h : H), evalFn Try.prog (cmp_Compare_int.tb) cmp_Compare_int.A Try.f68 (.one (.leaf (.int .i64))) (TT.un [.leaf (.int .i64), .leaf (.int .i64)] x) h = cmp_Compare_int x.1 x.2 h := by
  intro x h
  kernel_rfl
noncomputable def cmp_Compare_int.e : Entry := mkX [.leaf (.int .i64), .leaf (.int .i64)] (.one (.leaf (.int .i64))) fun x h => cmp_Compare_int x.1 x.2 h
theorem cmp_Compare_int.ok : EntryOK Try.prog 68 (cmp_Compare_int.e) := mkX_ok (cmp_Compare_int.tbok) Try.mixed Try.func68 (by kernel_rfl) (cmp_Compare_int.eq)
noncomputable def cmp_Compare_intP (a0 : Int) (a1 : Int) : Option (Int) := (cmp_Compare_int a0 a1 H.empty).bind fun p => rdRes false p.2 (.one (.leaf (.int .i64))) (Res.un (.one (.leaf (.int .i64))) p.1)
theorem cmp_Compare_intP.eq : ∀ x : TT [.leaf (.int .i64), .leaf (.int .i64)], ((evalFn Try.prog (cmp_Compare_int.tb) cmp_Compare_int.A Try.f68 (.one (.leaf (.int .i64))) (TT.lo false [.leaf (.int .i64), .leaf (.int .i64)] x) H.empty).bind fun p => rdRes false p.2 (.one (.leaf (.int .i64))) (Res.un (.one (.leaf (.int .i64))) p.1)) = cmp_Compare_intP x.1 x.2 := by
  intro x
  rw [show TT.lo false [.leaf (.int .i64), .leaf (.int .i64)] x = TT.un [.leaf (.int .i64), .leaf (.int .i64)] (x.1, x.2) from rfl, cmp_Compare_int.eq]
  rfl
noncomputable def cmp_Compare_intP.e : Entry := mkP [.leaf (.int .i64), .leaf (.int .i64)] (.one (.leaf (.int .i64))) fun x => cmp_Compare_intP x.1 x.2
theorem cmp_Compare_intP.ok : EntryOK Try.prog 68 (cmp_Compare_intP.e) := mkP_ok (cmp_Compare_int.tbok) Try.mixed Try.func68 (by kernel_rfl) cmp_Compare_intP.eq

/-! ### slices.Compare[[]int,int]: function 30 -/
noncomputable def slices_Compare_int_int.tb : Table := tab [(68, cmp_Compare_intP.e)] [] Table.nil
theorem slices_Compare_int_int.tbok : TabOK Try.prog (slices_Compare_int_int.tb) := TabOK.tab (TabOK.nil Try.prog) (all_cons cmp_Compare_intP.ok (all_nil _)) (all_nil _)
noncomputable def slices_Compare_int_int.loop1 (a0 : SV) (a1 : SV) : (Int) × H → Option (Stp ((Int) × H) (Flow (Unit) (Int) × H)) := fun (y1, h2) =>
(bif (decide (y1 < ((a0.len : Nat) : Int))) then (guardO (0 ≤ y1 ∧ y1 < ((a0.len : Nat) : Int)) ((rdT (.leaf (.int .i64)) h2 (V.add a0.a (Int.toNat y1 * 1))).bind fun x3 =>
(bif (decide (((a1.len : Nat) : Int) ≤ y1)) then (some (.done (.ret 1, h2))) else (guardO (0 ≤ y1 ∧ y1 < ((a1.len : Nat) : Int)) ((rdT (.leaf (.int .i64)) h2 (V.add a1.a (Int.toNat y1 * 1))).bind fun x4 =>
((cmp_Compare_intP x3 x4).bind fun r5 =>
(bif (!(decide (r5 = 0))) then (some (.done (.ret r5, h2))) else (some (.more ((IntKind.wrap .i64 (y1 + 1)), h2)))))))))) else (some (.done (.ex0 (), h2))))
noncomputable def slices_Compare_int_int (a0 : SV) (a1 : SV) (h : H) : Option ((Int) × H) :=
((iter FUEL (slices_Compare_int_int.loop1 a0 a1) (0, h)).bind fun (fl7, h6) => match fl7 with
| .next _ => none
| .ret rr8 => (some (rr8, h6))
| .ex0 _ =>
(bif (decide (((a0.len : Nat) : Int) < ((a1.len : Nat) : Int))) then (some ((-1), h6)) else (some (0, h6)))
| .ex1 _ => none)
def slices_Compare_int_int.A : Ann := { lits := [], conds := [], loops := [(2, [11], [.leaf (.int .i64)], [], [], some 0, none)], regs := [] }
theorem slices_Compare_int_int.eq : ∀ (x : TT [.leaf .slice, .leaf .slice]) (h : H), evalFn Try.prog (slices_Compare_int_int.tb) slices_Compare_int_int.A Try.f30 (.one (.leaf (.int .i64))) (TT.un [.leaf .slice, .leaf .slice] x) h = slices_Compare_int_int x.1 x.2 h := by
  intro x h
  kernel_rfl
noncomputable def slices_Compare_int_int.e : Entry := mkX [.leaf .slice, .leaf .slice] (.one (.leaf (.int .i64))) fun x h => slices_Compare_int_int x.1 x.2 h
theorem slices_Compare_int_int.ok : EntryOK Try.prog 30 (slices_Compare_int_int.e) := mkX_ok (slices_Compare_int_int.tbok) Try.mixed Try.func30 (by kernel_rfl) (slices_Compare_int_int.eq)
noncomputable def slices_Compare_int_intP (a0 : (List (Int))) (a1 : (List (Int))) : Option (Int) := (slices_Compare_int_int (rowSV false [.int .i64] a0) (rowSV false [.int .i64] a1) H.empty).bind fun p => rdRes false p.2 (.one (.leaf (.int .i64))) (Res.un (.one (.leaf (.int .i64))) p.1)
theorem slices_Compare_int_intP.eq : ∀ x : TT [.leaf (.row [.int .i64]), .leaf (.row [.int .i64])], ((evalFn Try.prog (slices_Compare_int_int.tb) slices_Compare_int_int.A Try.f30 (.one (.leaf (.int .i64))) (TT.lo false [.leaf (.row [.int .i64]), .leaf (.row [.int .i64])] x) H.empty).bind fun p => rdRes false p.2 (.one (.leaf (.int .i64))) (Res.un (.one (.leaf (.int .i64))) p.1)) = slices_Compare_int_intP x.1 x.2 := by
  intro x
  rw [show TT.lo false [.leaf (.row [.int .i64]), .leaf (.row [.int .i64])] x = TT.un [.leaf .slice, .leaf .slice] ((rowSV false [.int .i64] x.1), (rowSV false [.int .i64] x.2)) from rfl, slices_Compare_int_int.eq]
  rfl
noncomputable def slices_Compare_int_intP.e : Entry := mkP [.leaf (.row [.int .i64]), .leaf (.row [.int .i64])] (.one (.leaf (.int .i64))) fun x => slices_Compare_int_intP x.1 x.2
theorem slices_Compare_int_intP.ok : EntryOK Try.prog 30 (slices_Compare_int_intP.e) := mkP_ok (slices_Compare_int_int.tbok) Try.mixed Try.func30 (by kernel_rfl) slices_Compare_int_intP.eq

/-! ### spile/spilelaw29.BlendBest: function 7 -/
noncomputable def spilelaw29_BlendBest.tb : Table := tab [(9, spilelaw29_awakeP.e), (10, spileref16_FewP.e), (11, spileref29_FewP.e), (12, blend_BestP.e), (16, blend_BoundP.e), (23, blend_KeepsP.e), (29, spilelaw29_costP.e), (30, slices_Compare_int_intP.e)] [] Table.nil
theorem spilelaw29_BlendBest.tbok : TabOK Try.prog (spilelaw29_BlendBest.tb) := TabOK.tab (TabOK.nil Try.prog) (all_cons spilelaw29_awakeP.ok (all_cons spileref16_FewP.ok (all_cons spileref29_FewP.ok (all_cons blend_BestP.ok (all_cons blend_BoundP.ok (all_cons blend_KeepsP.ok (all_cons spilelaw29_costP.ok (all_cons slices_Compare_int_intP.ok (all_nil _))))))))) (all_nil _)
noncomputable def spilelaw29_BlendBest (a0 : SV) (a1 : (SV × SV × SV × Int × Int × Int)) (a2 : SV) (h : H) : Option ((Bool) × H) :=
(match a1 with
| (a1_0, a1_1, a1_2, a1_3, a1_4, a1_5) =>
(let h1 : H := H.new h [.slice a1_0.a a1_0.len a1_0.cap a1_0.tail, .slice a1_1.a a1_1.len a1_1.cap a1_1.tail, .slice a1_2.a a1_2.len a1_2.cap a1_2.tail, .int .i64 a1_3, .int .i64 a1_4, .int .i64 a1_5] 6
((spilelaw29_awakeP ).bind fun r2 =>
(bif (!r2) then (some (false, h1)) else ((((rdRow true h1 [.int .i64, .int .i64] a0).bind fun s4 =>
((spileref16_FewP s4).bind fun r3 =>
(bif !(!r3) then ((rdT (.agg [.slice, .slice, .slice, .int .i64, .int .i64, .int .i64]) h1 (.hp h.next 6 0)).bind fun (x5_0, x5_1, x5_2, x5_3, x5_4, x5_5) =>
((rdRow true h1 [.int .i64, .int .i64] x5_0).bind fun s7 =>
((rdRow true h1 [.int .i64] x5_1).bind fun s8 =>
((rdRow true h1 [.int .i64] x5_2).bind fun s9 =>
((spileref29_FewP (s7, s8, s9, x5_3, x5_4, x5_5)).bind fun r6 =>
(bif !(!r6) then (some ((decide ((8 : Int) < ((a2.len : Nat) : Int))), h1)) else (some (true, h1)))))))) else (some (true, h1)))))).bind fun (y10, h11) =>
(bif y10 then (some (true, h11)) else ((rdT (.agg [.slice, .slice, .slice, .int .i64, .int .i64, .int .i64]) h11 (.hp h.next 6 0)).bind fun (x12_0, x12_1, x12_2, x12_3, x12_4, x12_5) =>
((rdRow true h11 [.int .i64, .int .i64] a0).bind fun s16 =>
((rdRow true h11 [.int .i64, .int .i64] x12_0).bind fun s17 =>
((rdRow true h11 [.int .i64] x12_1).bind fun s18 =>
((rdRow true h11 [.int .i64] x12_2).bind fun s19 =>
((blend_BestP s16 (s17, s18, s19, x12_3, x12_4, x12_5)).bind fun (r13, r14, r15) =>
((rdT (.agg [.slice, .slice, .slice, .int .i64, .int .i64, .int .i64]) h11 (.hp h.next 6 0)).bind fun (x20_0, x20_1, x20_2, x20_3, x20_4, x20_5) =>
((rdRow true h11 [.int .i64, .int .i64] a0).bind fun s23 =>
((rdRow true h11 [.int .i64, .int .i64] x20_0).bind fun s24 =>
((rdRow true h11 [.int .i64] x20_1).bind fun s25 =>
((rdRow true h11 [.int .i64] x20_2).bind fun s26 =>
((rdRow true h11 [.int .i64] a2).bind fun s27 =>
((blend_KeepsP s23 (s24, s25, s26, x20_3, x20_4, x20_5) s27).bind fun (r21, r22) =>
(bif (!(decide (r15 = 0))) then (((bif (decide (((r13.length : Nat) : Int) = 0)) then (bif (decide (r14 = 0)) then (bif !(!r21) then (some ((!(decide (r22 = 0))), h11)) else (some (true, h11))) else (some (false, h11))) else (some (false, h11)))).bind fun (y28, h29) =>
(some (y28, h29))) else ((rdT (.agg [.slice, .slice, .slice, .int .i64, .int .i64, .int .i64]) h11 (.hp h.next 6 0)).bind fun (x30_0, x30_1, x30_2, x30_3, x30_4, x30_5) =>
((rdRow true h11 [.int .i64, .int .i64] a0).bind fun s33 =>
((rdRow true h11 [.int .i64, .int .i64] x30_0).bind fun s34 =>
((rdRow true h11 [.int .i64] x30_1).bind fun s35 =>
((rdRow true h11 [.int .i64] x30_2).bind fun s36 =>
((rdRow true h11 [.int .i64] (rowSV true [.int .i64] r13)).bind fun s37 =>
((blend_KeepsP s33 (s34, s35, s36, x30_3, x30_4, x30_5) s37).bind fun (r31, r32) =>
((rdT (.agg [.slice, .slice, .slice, .int .i64, .int .i64, .int .i64]) h11 (.hp h.next 6 0)).bind fun (x38_0, x38_1, x38_2, x38_3, x38_4, x38_5) =>
((rdRow true h11 [.int .i64, .int .i64] a0).bind fun s41 =>
((rdRow true h11 [.int .i64, .int .i64] x38_0).bind fun s42 =>
((rdRow true h11 [.int .i64] x38_1).bind fun s43 =>
((rdRow true h11 [.int .i64] x38_2).bind fun s44 =>
((blend_BoundP s41 (s42, s43, s44, x38_3, x38_4, x38_5)).bind fun (r39, r40) =>
(((bif !(!(decide (r32 = 0))) then (bif !(!r31) then (bif !(!(decide (r40 = 0))) then ((rdT (.agg [.slice, .slice, .slice, .int .i64, .int .i64, .int .i64]) h11 (.hp h.next 6 0)).bind fun (x45_0, x45_1, x45_2, x45_3, x45_4, x45_5) =>
((rdRow true h11 [.int .i64, .int .i64] x45_0).bind fun s47 =>
((rdRow true h11 [.int .i64] x45_1).bind fun s48 =>
((rdRow true h11 [.int .i64] x45_2).bind fun s49 =>
((rdRow true h11 [.int .i64] (rowSV true [.int .i64] r13)).bind fun s50 =>
((spilelaw29_costP (s47, s48, s49, x45_3, x45_4, x45_5) s50).bind fun r46 =>
(bif !(!(decide (r14 = r46))) then (some ((decide (r14 < r39)), h11)) else (some (true, h11))))))))) else (some (true, h11))) else (some (true, h11))) else (some (true, h11)))).bind fun (y51, h52) =>
(bif y51 then (some (false, h52)) else (((bif !(!(decide (r22 = 0))) then (some ((!r21), h52)) else (some (true, h52)))).bind fun (y53, h54) =>
(bif y53 then (some (true, h54)) else ((rdT (.agg [.slice, .slice, .slice, .int .i64, .int .i64, .int .i64]) h54 (.hp h.next 6 0)).bind fun (x55_0, x55_1, x55_2, x55_3, x55_4, x55_5) =>
((rdRow true h54 [.int .i64, .int .i64] x55_0).bind fun s57 =>
((rdRow true h54 [.int .i64] x55_1).bind fun s58 =>
((rdRow true h54 [.int .i64] x55_2).bind fun s59 =>
((rdRow true h54 [.int .i64] a2).bind fun s60 =>
((spilelaw29_costP (s57, s58, s59, x55_3, x55_4, x55_5) s60).bind fun r56 =>
(((bif !(decide (r14 < r56)) then (bif (decide (r56 = r14)) then ((rdRow true h54 [.int .i64] (rowSV true [.int .i64] r13)).bind fun s62 =>
((rdRow true h54 [.int .i64] a2).bind fun s63 =>
((slices_Compare_int_intP s62 s63).bind fun r61 =>
(some ((decide (r61 ≤ 0)), h54))))) else (some (false, h54))) else (some (true, h54)))).bind fun (y64, h65) =>
(some (y64, h65))))))))))))))))))))))))))))))))))))))))))))))
def spilelaw29_BlendBest.A : Ann := { lits := [], conds := [], loops := [], regs := [(3, [31], [.leaf .bool]), (8, [6], [.leaf .bool]), (11, [97], [.leaf .bool]), (13, [103], [.leaf .bool]), (16, [6], [.leaf .bool])] }
theorem spilelaw29_BlendBest.eq : ∀ (x : TT [.leaf .slice, .agg [.slice, .slice, .slice, .int .i64, .int .i64, .int .i64], .leaf .slice]) (h : H), evalFn Try.prog (spilelaw29_BlendBest.tb) spilelaw29_BlendBest.A Try.f7 (.one (.leaf .bool)) (TT.un [.leaf .slice, .agg [.slice, .slice, .slice, .int .i64, .int .i64, .int .i64], .leaf .slice] x) h = spilelaw29_BlendBest x.1 x.2.1 x.2.2 h := by
  intro x h
  kernel_rfl
noncomputable def spilelaw29_BlendBest.e : Entry := mkX [.leaf .slice, .agg [.slice, .slice, .slice, .int .i64, .int .i64, .int .i64], .leaf .slice] (.one (.leaf .bool)) fun x h => spilelaw29_BlendBest x.1 x.2.1 x.2.2 h
theorem spilelaw29_BlendBest.ok : EntryOK Try.prog 7 (spilelaw29_BlendBest.e) := mkX_ok (spilelaw29_BlendBest.tbok) Try.mixed Try.func7 (by kernel_rfl) (spilelaw29_BlendBest.eq)
noncomputable def spilelaw29_BlendBestP (a0 : (List (Int × Int))) (a1 : ((List (Int × Int)) × (List (Int)) × (List (Int)) × Int × Int × Int)) (a2 : (List (Int))) : Option (Bool) := (spilelaw29_BlendBest (rowSV false [.int .i64, .int .i64] a0) (rowSV false [.int .i64, .int .i64] a1.1, rowSV false [.int .i64] a1.2.1, rowSV false [.int .i64] a1.2.2.1, a1.2.2.2.1, a1.2.2.2.2.1, a1.2.2.2.2.2) (rowSV false [.int .i64] a2) H.empty).bind fun p => rdRes false p.2 (.one (.leaf .bool)) (Res.un (.one (.leaf .bool)) p.1)
theorem spilelaw29_BlendBestP.eq : ∀ x : TT [.leaf (.row [.int .i64, .int .i64]), .agg [.row [.int .i64, .int .i64], .row [.int .i64], .row [.int .i64], .int .i64, .int .i64, .int .i64], .leaf (.row [.int .i64])], ((evalFn Try.prog (spilelaw29_BlendBest.tb) spilelaw29_BlendBest.A Try.f7 (.one (.leaf .bool)) (TT.lo false [.leaf (.row [.int .i64, .int .i64]), .agg [.row [.int .i64, .int .i64], .row [.int .i64], .row [.int .i64], .int .i64, .int .i64, .int .i64], .leaf (.row [.int .i64])] x) H.empty).bind fun p => rdRes false p.2 (.one (.leaf .bool)) (Res.un (.one (.leaf .bool)) p.1)) = spilelaw29_BlendBestP x.1 x.2.1 x.2.2 := by
  intro x
  rw [show TT.lo false [.leaf (.row [.int .i64, .int .i64]), .agg [.row [.int .i64, .int .i64], .row [.int .i64], .row [.int .i64], .int .i64, .int .i64, .int .i64], .leaf (.row [.int .i64])] x = TT.un [.leaf .slice, .agg [.slice, .slice, .slice, .int .i64, .int .i64, .int .i64], .leaf .slice] ((rowSV false [.int .i64, .int .i64] x.1), (rowSV false [.int .i64, .int .i64] x.2.1.1, rowSV false [.int .i64] x.2.1.2.1, rowSV false [.int .i64] x.2.1.2.2.1, x.2.1.2.2.2.1, x.2.1.2.2.2.2.1, x.2.1.2.2.2.2.2), (rowSV false [.int .i64] x.2.2)) from rfl, spilelaw29_BlendBest.eq]
  rfl
noncomputable def spilelaw29_BlendBestP.e : Entry := mkP [.leaf (.row [.int .i64, .int .i64]), .agg [.row [.int .i64, .int .i64], .row [.int .i64], .row [.int .i64], .int .i64, .int .i64, .int .i64], .leaf (.row [.int .i64])] (.one (.leaf .bool)) fun x => spilelaw29_BlendBestP x.1 x.2.1 x.2.2
theorem spilelaw29_BlendBestP.ok : EntryOK Try.prog 7 (spilelaw29_BlendBestP.e) := mkP_ok (spilelaw29_BlendBest.tbok) Try.mixed Try.func7 (by kernel_rfl) spilelaw29_BlendBestP.eq

/-! ### spile/spilelaw29.BlendMost$1: function 31 -/
noncomputable def spilelaw29_BlendMost_1.tb : Table := tab [] [] Table.nil
theorem spilelaw29_BlendMost_1.tbok : TabOK Try.prog (spilelaw29_BlendMost_1.tb) := TabOK.tab (TabOK.nil Try.prog) (all_nil _) (all_nil _)
noncomputable def spilelaw29_BlendMost_1.loop1 (a0 : SV) : (Int × Int) × H → Option (Stp ((Int × Int) × H) (Flow (Int) (Int) × H)) := fun ((y1, y2), h3) =>
(bif (decide (y2 < ((a0.len : Nat) : Int))) then (guardO (0 ≤ y2 ∧ y2 < ((a0.len : Nat) : Int)) ((rdT (.leaf (.int .i64)) h3 (V.add a0.a (Int.toNat y2 * 1))).bind fun x4 =>
(some (.more (((IntKind.wrap .i64 (y1 + x4)), (IntKind.wrap .i64 (y2 + 1))), h3))))) else (some (.done (.ex0 y1, h3))))
noncomputable def spilelaw29_BlendMost_1 (a0 : SV) (h : H) : Option ((Int) × H) :=
((iter FUEL (spilelaw29_BlendMost_1.loop1 a0) ((0, 0), h)).bind fun (fl6, h5) => match fl6 with
| .next _ => none
| .ret rr7 => (some (rr7, h5))
| .ex0 y8 =>
(some (y8, h5))
| .ex1 _ => none)
def spilelaw29_BlendMost_1.A : Ann := { lits := [], conds := [], loops := [(3, [3, 8], [.leaf (.int .i64), .leaf (.int .i64)], [3], [.leaf (.int .i64)], some 0, none)], regs := [] }
theorem spilelaw29_BlendMost_1.eq : ∀ (x : TT [.leaf .slice]) (h : H), evalFn Try.prog (spilelaw29_BlendMost_1.tb) spilelaw29_BlendMost_1.A Try.f31 (.one (.leaf (.int .i64))) (TT.un [.leaf .slice] x) h = spilelaw29_BlendMost_1 x h := by
  intro x h
  kernel_rfl
noncomputable def spilelaw29_BlendMost_1.e : Entry := mkX [.leaf .slice] (.one (.leaf (.int .i64))) fun x h => spilelaw29_BlendMost_1 x h
theorem spilelaw29_BlendMost_1.ok : EntryOK Try.prog 31 (spilelaw29_BlendMost_1.e) := mkX_ok (spilelaw29_BlendMost_1.tbok) Try.mixed Try.func31 (by kernel_rfl) (spilelaw29_BlendMost_1.eq)
noncomputable def spilelaw29_BlendMost_1P (a0 : (List (Int))) : Option (Int) := (spilelaw29_BlendMost_1 (rowSV false [.int .i64] a0) H.empty).bind fun p => rdRes false p.2 (.one (.leaf (.int .i64))) (Res.un (.one (.leaf (.int .i64))) p.1)
theorem spilelaw29_BlendMost_1P.eq : ∀ x : TT [.leaf (.row [.int .i64])], ((evalFn Try.prog (spilelaw29_BlendMost_1.tb) spilelaw29_BlendMost_1.A Try.f31 (.one (.leaf (.int .i64))) (TT.lo false [.leaf (.row [.int .i64])] x) H.empty).bind fun p => rdRes false p.2 (.one (.leaf (.int .i64))) (Res.un (.one (.leaf (.int .i64))) p.1)) = spilelaw29_BlendMost_1P x := by
  intro x
  rw [show TT.lo false [.leaf (.row [.int .i64])] x = TT.un [.leaf .slice] ((rowSV false [.int .i64] x)) from rfl, spilelaw29_BlendMost_1.eq]
  rfl
noncomputable def spilelaw29_BlendMost_1P.e : Entry := mkP [.leaf (.row [.int .i64])] (.one (.leaf (.int .i64))) fun x => spilelaw29_BlendMost_1P x
theorem spilelaw29_BlendMost_1P.ok : EntryOK Try.prog 31 (spilelaw29_BlendMost_1P.e) := mkP_ok (spilelaw29_BlendMost_1.tbok) Try.mixed Try.func31 (by kernel_rfl) spilelaw29_BlendMost_1P.eq

/-! ### spile/spilelaw29.BlendMost: function 8 -/
noncomputable def spilelaw29_BlendMost.tb : Table := tab [(9, spilelaw29_awakeP.e), (10, spileref16_FewP.e), (11, spileref29_FewP.e), (12, blend_BestP.e), (18, blend_MostP.e), (23, blend_KeepsP.e), (30, slices_Compare_int_intP.e)] [(31, spilelaw29_BlendMost_1P.e)] Table.nil
theorem spilelaw29_BlendMost.tbok : TabOK Try.prog (spilelaw29_BlendMost.tb) := TabOK.tab (TabOK.nil Try.prog) (all_cons spilelaw29_awakeP.ok (all_cons spileref16_FewP.ok (all_cons spileref29_FewP.ok (all_cons blend_BestP.ok (all_cons blend_MostP.ok (all_cons blend_KeepsP.ok (all_cons slices_Compare_int_intP.ok (all_nil _)))))))) (all_cons spilelaw29_BlendMost_1P.ok (all_nil _))
noncomputable def spilelaw29_BlendMost (a0 : SV) (a1 : (SV × SV × SV × Int × Int × Int)) (a2 : SV) (h : H) : Option ((Bool) × H) :=
(match a1 with
| (a1_0, a1_1, a1_2, a1_3, a1_4, a1_5) =>
(let h1 : H := H.new h [.slice a1_0.a a1_0.len a1_0.cap a1_0.tail, .slice a1_1.a a1_1.len a1_1.cap a1_1.tail, .slice a1_2.a a1_2.len a1_2.cap a1_2.tail, .int .i64 a1_3, .int .i64 a1_4, .int .i64 a1_5] 6
((spilelaw29_awakeP ).bind fun r2 =>
(bif (!r2) then (some (false, h1)) else ((((rdRow true h1 [.int .i64, .int .i64] a0).bind fun s4 =>
((spileref16_FewP s4).bind fun r3 =>
(bif !(!r3) then ((rdT (.agg [.slice, .slice, .slice, .int .i64, .int .i64, .int .i64]) h1 (.hp h.next 6 0)).bind fun (x5_0, x5_1, x5_2, x5_3, x5_4, x5_5) =>
((rdRow true h1 [.int .i64, .int .i64] x5_0).bind fun s7 =>
((rdRow true h1 [.int .i64] x5_1).bind fun s8 =>
((rdRow true h1 [.int .i64] x5_2).bind fun s9 =>
((spileref29_FewP (s7, s8, s9, x5_3, x5_4, x5_5)).bind fun r6 =>
(bif !(!r6) then (some ((decide ((8 : Int) < ((a2.len : Nat) : Int))), h1)) else (some (true, h1)))))))) else (some (true, h1)))))).bind fun (y10, h11) =>
(bif y10 then (some (true, h11)) else ((rdT (.agg [.slice, .slice, .slice, .int .i64, .int .i64, .int .i64]) h11 (.hp h.next 6 0)).bind fun (x12_0, x12_1, x12_2, x12_3, x12_4, x12_5) =>
((rdRow true h11 [.int .i64, .int .i64] a0).bind fun s16 =>
((rdRow true h11 [.int .i64, .int .i64] x12_0).bind fun s17 =>
((rdRow true h11 [.int .i64] x12_1).bind fun s18 =>
((rdRow true h11 [.int .i64] x12_2).bind fun s19 =>
((blend_MostP s16 (s17, s18, s19, x12_3, x12_4, x12_5)).bind fun (r13, r14, r15) =>
((rdT (.agg [.slice, .slice, .slice, .int .i64, .int .i64, .int .i64]) h11 (.hp h.next 6 0)).bind fun (x20_0, x20_1, x20_2, x20_3, x20_4, x20_5) =>
((rdRow true h11 [.int .i64, .int .i64] a0).bind fun s24 =>
((rdRow true h11 [.int .i64, .int .i64] x20_0).bind fun s25 =>
((rdRow true h11 [.int .i64] x20_1).bind fun s26 =>
((rdRow true h11 [.int .i64] x20_2).bind fun s27 =>
((blend_BestP s24 (s25, s26, s27, x20_3, x20_4, x20_5)).bind fun (r21, r22, r23) =>
(((bif !(!(decide (r15 = 0))) then (some ((!(decide (r23 = 0))), h11)) else (some (true, h11)))).bind fun (y28, h29) =>
(bif y28 then (((bif (decide (r15 = r23)) then (bif (decide (((r13.length : Nat) : Int) = 0)) then (bif (decide (((r21.length : Nat) : Int) = 0)) then (some ((decide (r14 = 0)), h29)) else (some (false, h29))) else (some (false, h29))) else (some (false, h29)))).bind fun (y30, h31) =>
(some (y30, h31))) else ((rdT (.agg [.slice, .slice, .slice, .int .i64, .int .i64, .int .i64]) h29 (.hp h.next 6 0)).bind fun (x32_0, x32_1, x32_2, x32_3, x32_4, x32_5) =>
((rdRow true h29 [.int .i64, .int .i64] a0).bind fun s35 =>
((rdRow true h29 [.int .i64, .int .i64] x32_0).bind fun s36 =>
((rdRow true h29 [.int .i64] x32_1).bind fun s37 =>
((rdRow true h29 [.int .i64] x32_2).bind fun s38 =>
((rdRow true h29 [.int .i64] (rowSV true [.int .i64] r13)).bind fun s39 =>
((blend_KeepsP s35 (s36, s37, s38, x32_3, x32_4, x32_5) s39).bind fun (r33, r34) =>
((rdT (.agg [.slice, .slice, .slice, .int .i64, .int .i64, .int .i64]) h29 (.hp h.next 6 0)).bind fun (x40_0, x40_1, x40_2, x40_3, x40_4, x40_5) =>
((rdRow true h29 [.int .i64, .int .i64] a0).bind fun s43 =>
((rdRow true h29 [.int .i64, .int .i64] x40_0).bind fun s44 =>
((rdRow true h29 [.int .i64] x40_1).bind fun s45 =>
((rdRow true h29 [.int .i64] x40_2).bind fun s46 =>
((rdRow true h29 [.int .i64] a2).bind fun s47 =>
((blend_KeepsP s43 (s44, s45, s46, x40_3, x40_4, x40_5) s47).bind fun (r41, r42) =>
(((bif !(!(decide (r34 = 0))) then (bif !(!r33) then ((rdRow true h29 [.int .i64] (rowSV true [.int .i64] r13)).bind fun s49 =>
((spilelaw29_BlendMost_1P s49).bind fun r48 =>
(bif !(!(decide (r48 = r14))) then ((rdT (.leaf (.int .i64)) h29 (.hp h.next 6 5)).bind fun x50 =>
(bif !(decide (r14 < x50)) then ((rdRow true h29 [.int .i64] (rowSV true [.int .i64] r21)).bind fun s52 =>
((spilelaw29_BlendMost_1P s52).bind fun r51 =>
(some ((decide (r14 < r51)), h29)))) else (some (true, h29)))) else (some (true, h29))))) else (some (true, h29))) else (some (true, h29)))).bind fun (y53, h54) =>
(bif y53 then (some (false, h54)) else (((bif !(!(decide (r42 = 0))) then (bif !(!r41) then ((rdRow true h54 [.int .i64] a2).bind fun s56 =>
((spilelaw29_BlendMost_1P s56).bind fun r55 =>
(bif !(decide (r55 < r14)) then ((rdRow true h54 [.int .i64] a2).bind fun s58 =>
((spilelaw29_BlendMost_1P s58).bind fun r57 =>
(bif (decide (r57 = r14)) then ((rdRow true h54 [.int .i64] (rowSV true [.int .i64] r13)).bind fun s60 =>
((rdRow true h54 [.int .i64] a2).bind fun s61 =>
((slices_Compare_int_intP s60 s61).bind fun r59 =>
(some ((decide (r59 ≤ 0)), h54))))) else (some (false, h54))))) else (some (true, h54))))) else (some (true, h54))) else (some (true, h54)))).bind fun (y62, h63) =>
(some (y62, h63)))))))))))))))))))))))))))))))))))))))
def spilelaw29_BlendMost.A : Ann := { lits := [], conds := [], loops := [], regs := [(3, [32], [.leaf .bool]), (7, [52], [.leaf .bool]), (8, [6], [.leaf .bool]), (12, [109], [.leaf .bool]), (14, [6], [.leaf .bool])] }
theorem spilelaw29_BlendMost.eq : ∀ (x : TT [.leaf .slice, .agg [.slice, .slice, .slice, .int .i64, .int .i64, .int .i64], .leaf .slice]) (h : H), evalFn Try.prog (spilelaw29_BlendMost.tb) spilelaw29_BlendMost.A Try.f8 (.one (.leaf .bool)) (TT.un [.leaf .slice, .agg [.slice, .slice, .slice, .int .i64, .int .i64, .int .i64], .leaf .slice] x) h = spilelaw29_BlendMost x.1 x.2.1 x.2.2 h := by
  intro x h
  kernel_rfl
noncomputable def spilelaw29_BlendMost.e : Entry := mkX [.leaf .slice, .agg [.slice, .slice, .slice, .int .i64, .int .i64, .int .i64], .leaf .slice] (.one (.leaf .bool)) fun x h => spilelaw29_BlendMost x.1 x.2.1 x.2.2 h
theorem spilelaw29_BlendMost.ok : EntryOK Try.prog 8 (spilelaw29_BlendMost.e) := mkX_ok (spilelaw29_BlendMost.tbok) Try.mixed Try.func8 (by kernel_rfl) (spilelaw29_BlendMost.eq)
noncomputable def spilelaw29_BlendMostP (a0 : (List (Int × Int))) (a1 : ((List (Int × Int)) × (List (Int)) × (List (Int)) × Int × Int × Int)) (a2 : (List (Int))) : Option (Bool) := (spilelaw29_BlendMost (rowSV false [.int .i64, .int .i64] a0) (rowSV false [.int .i64, .int .i64] a1.1, rowSV false [.int .i64] a1.2.1, rowSV false [.int .i64] a1.2.2.1, a1.2.2.2.1, a1.2.2.2.2.1, a1.2.2.2.2.2) (rowSV false [.int .i64] a2) H.empty).bind fun p => rdRes false p.2 (.one (.leaf .bool)) (Res.un (.one (.leaf .bool)) p.1)
theorem spilelaw29_BlendMostP.eq : ∀ x : TT [.leaf (.row [.int .i64, .int .i64]), .agg [.row [.int .i64, .int .i64], .row [.int .i64], .row [.int .i64], .int .i64, .int .i64, .int .i64], .leaf (.row [.int .i64])], ((evalFn Try.prog (spilelaw29_BlendMost.tb) spilelaw29_BlendMost.A Try.f8 (.one (.leaf .bool)) (TT.lo false [.leaf (.row [.int .i64, .int .i64]), .agg [.row [.int .i64, .int .i64], .row [.int .i64], .row [.int .i64], .int .i64, .int .i64, .int .i64], .leaf (.row [.int .i64])] x) H.empty).bind fun p => rdRes false p.2 (.one (.leaf .bool)) (Res.un (.one (.leaf .bool)) p.1)) = spilelaw29_BlendMostP x.1 x.2.1 x.2.2 := by
  intro x
  rw [show TT.lo false [.leaf (.row [.int .i64, .int .i64]), .agg [.row [.int .i64, .int .i64], .row [.int .i64], .row [.int .i64], .int .i64, .int .i64, .int .i64], .leaf (.row [.int .i64])] x = TT.un [.leaf .slice, .agg [.slice, .slice, .slice, .int .i64, .int .i64, .int .i64], .leaf .slice] ((rowSV false [.int .i64, .int .i64] x.1), (rowSV false [.int .i64, .int .i64] x.2.1.1, rowSV false [.int .i64] x.2.1.2.1, rowSV false [.int .i64] x.2.1.2.2.1, x.2.1.2.2.2.1, x.2.1.2.2.2.2.1, x.2.1.2.2.2.2.2), (rowSV false [.int .i64] x.2.2)) from rfl, spilelaw29_BlendMost.eq]
  rfl
noncomputable def spilelaw29_BlendMostP.e : Entry := mkP [.leaf (.row [.int .i64, .int .i64]), .agg [.row [.int .i64, .int .i64], .row [.int .i64], .row [.int .i64], .int .i64, .int .i64, .int .i64], .leaf (.row [.int .i64])] (.one (.leaf .bool)) fun x => spilelaw29_BlendMostP x.1 x.2.1 x.2.2
theorem spilelaw29_BlendMostP.ok : EntryOK Try.prog 8 (spilelaw29_BlendMostP.e) := mkP_ok (spilelaw29_BlendMost.tbok) Try.mixed Try.func8 (by kernel_rfl) spilelaw29_BlendMostP.eq
end Go.Proofs.Ytfkabibbaajfhaa
