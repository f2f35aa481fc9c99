/- The functions of the program as Lean functions, each with the equation by which the evaluator is that function. Written by a program of this session (evdrive.py). Conditions: none. -/
import Derived.Test.YtadlfinlbaogeaaProg
import Derived.Test.YtadlfinlbaogeaaEvSpec
import Derived.Test.YtadlfinlbaogeaaFn2
namespace Go.Proofs.Ytadlfinlbaogeaa
open Go Go.Proofs.Ytadlfinlbaogeaa.Ev
set_option maxRecDepth 100000
set_option linter.unusedVariables false
/-! ### slices.Equal[[]int,int]: function 25 -/
noncomputable def slices_Equal_int_int.tb : Table := tab [] [] Table.nil
theorem slices_Equal_int_int.tbok : TabOK Try.prog (slices_Equal_int_int.tb) := TabOK.tab (TabOK.nil Try.prog) (all_nil _) (all_nil _)
noncomputable def slices_Equal_int_int.loop1 (a0 : SV) (a1 : SV) : (Int) × H → Option (Stp ((Int) × H) (Flow (Unit) (Bool) × H)) := fun (y1, h2) =>
(bif (decide (y1 < ((a0.len : Nat) : Int))) then (let h3 : H := H.reserve h2 0
(guardO (0 ≤ y1 ∧ y1 < ((a0.len : Nat) : Int)) ((rdT (.leaf (.int .i64)) h3 (V.add a0.a (Int.toNat y1 * 1))).bind fun x4 =>
(guardO (0 ≤ y1 ∧ y1 < ((a1.len : Nat) : Int)) ((rdT (.leaf (.int .i64)) h3 (V.add a1.a (Int.toNat y1 * 1))).bind fun x5 =>
(bif (!(decide (x4 = x5))) then (some (.done (.ret false, h3))) else (some (.more ((IntKind.wrap .i64 (y1 + 1)), h3))))))))) else (some (.done (.ex0 (), h2))))
noncomputable def slices_Equal_int_int (a0 : SV) (a1 : SV) (h : H) : Option ((Bool) × H) :=
(bif (!(decide (((a0.len : Nat) : Int) = ((a1.len : Nat) : Int)))) then (some (false, h)) else ((iter FUEL (slices_Equal_int_int.loop1 a0 a1) (0, h)).bind fun (fl7, h6) => match fl7 with
| .next _ => none
| .ret rr8 => (some (rr8, h6))
| .ex0 _ =>
(some (true, h6))
| .ex1 _ => none))
def slices_Equal_int_int.A : Ann := { lits := [], conds := [], loops := [(4, [13], [.leaf (.int .i64)], [], [], some 0, none)], regs := [] }
theorem slices_Equal_int_int.eq : ∀ (x : TT [.leaf .slice, .leaf .slice]) (h : H), evalFn Try.prog (slices_Equal_int_int.tb) slices_Equal_int_int.A Try.f25 (.one (.leaf .bool)) (TT.un [.leaf .slice, .leaf .slice] x) h = slices_Equal_int_int x.1 x.2 h := by
  intro x h
  kernel_rfl
noncomputable def slices_Equal_int_int.e : Entry := mkX [.leaf .slice, .leaf .slice] (.one (.leaf .bool)) fun x h => slices_Equal_int_int x.1 x.2 h
theorem slices_Equal_int_int.ok : EntryOK Try.prog 25 (slices_Equal_int_int.e) := mkX_ok (slices_Equal_int_int.tbok) Try.mixed Try.func25 (by kernel_rfl) (slices_Equal_int_int.eq)
noncomputable def slices_Equal_int_intP (a0 : (List (Int))) (a1 : (List (Int))) : Option (Bool) := (slices_Equal_int_int (rowSV false [.int .i64] a0) (rowSV false [.int .i64] a1) H.empty).bind fun p => rdRes false p.2 (.one (.leaf .bool)) (Res.un (.one (.leaf .bool)) p.1)
theorem slices_Equal_int_intP.eq : ∀ x : TT [.leaf (.row [.int .i64]), .leaf (.row [.int .i64])], ((evalFn Try.prog (slices_Equal_int_int.tb) slices_Equal_int_int.A Try.f25 (.one (.leaf .bool)) (TT.lo false [.leaf (.row [.int .i64]), .leaf (.row [.int .i64])] x) H.empty).bind fun p => rdRes false p.2 (.one (.leaf .bool)) (Res.un (.one (.leaf .bool)) p.1)) = slices_Equal_int_intP x.1 x.2 := by
  intro x
  rw [show TT.lo false [.leaf (.row [.int .i64]), .leaf (.row [.int .i64])] x = TT.un [.leaf .slice, .leaf .slice] ((rowSV false [.int .i64] x.1), (rowSV false [.int .i64] x.2)) from rfl, slices_Equal_int_int.eq]
  rfl
noncomputable def slices_Equal_int_intP.e : Entry := mkP [.leaf (.row [.int .i64]), .leaf (.row [.int .i64])] (.one (.leaf .bool)) fun x => slices_Equal_int_intP x.1 x.2
theorem slices_Equal_int_intP.ok : EntryOK Try.prog 25 (slices_Equal_int_intP.e) := mkP_ok (slices_Equal_int_int.tbok) Try.mixed Try.func25 (by kernel_rfl) slices_Equal_int_intP.eq

/-! ### spile/proportion.Reduce: function 29 -/
noncomputable def proportion_Reduce.tb : Table := tab [(50, proportion_amountsP.e)] [] Table.nil
theorem proportion_Reduce.tbok : TabOK Try.prog (proportion_Reduce.tb) := TabOK.tab (TabOK.nil Try.prog) (all_cons proportion_amountsP.ok (all_nil _)) (all_nil _)
noncomputable def proportion_Reduce.loop1 : (Int × Int) × H → Option (Stp ((Int × Int) × H) (Flow (Int) (Int × Int × Int) × H)) := fun ((y3, y4), h5) =>
(bif (decide ((0 : Int) < y4)) then (let h6 : H := H.reserve h5 0
(guardO (y4 ≠ 0) (some (.more ((y4, (Int.tmod y3 y4)), h6))))) else (some (.done (.ex0 y3, h5))))
noncomputable def proportion_Reduce (a0 : Int) (a1 : Int) (h : H) : Option ((Int × Int × Int) × H) :=
((rdRow true h [.int .i64] ⟨.lp true ([.int .i64 a0, .int .i64 a1]) 0, 2, 2, false⟩).bind fun s2 =>
((proportion_amountsP s2).bind fun r1 =>
(bif (!r1) then (some ((0, 0, 2), h)) else (bif (decide (a1 = 0)) then (some ((0, 0, 16), h)) else ((iter FUEL (proportion_Reduce.loop1) ((a0, a1), h)).bind fun (fl8, h7) => match fl8 with
| .next _ => none
| .ret rr9 => (some (rr9, h7))
| .ex0 y10 =>
(let h11 : H := H.reserve h7 0
(guardO (y10 ≠ 0) (guardO (y10 ≠ 0) (some (((IntKind.wrap .i64 (Int.tdiv a0 y10)), (IntKind.wrap .i64 (Int.tdiv a1 y10)), 0), h11)))))
| .ex1 _ => none)))))
def proportion_Reduce.A : Ann := { lits := [], conds := [], loops := [(6, [7, 8], [.leaf (.int .i64), .leaf (.int .i64)], [7], [.leaf (.int .i64)], some 0, none)], regs := [] }
theorem proportion_Reduce.eq : ∀ (x : TT [.leaf (.int .i64), .leaf (.int .i64)]) (h : H), evalFn Try.prog (proportion_Reduce.tb) proportion_Reduce.A Try.f29 (.many [.leaf (.int .i64), .leaf (.int .i64), .leaf (.int .i64)]) (TT.un [.leaf (.int .i64), .leaf (.int .i64)] x) h = proportion_Reduce x.1 x.2 h := by
  intro x h
  kernel_rfl
noncomputable def proportion_Reduce.e : Entry := mkX [.leaf (.int .i64), .leaf (.int .i64)] (.many [.leaf (.int .i64), .leaf (.int .i64), .leaf (.int .i64)]) fun x h => proportion_Reduce x.1 x.2 h
theorem proportion_Reduce.ok : EntryOK Try.prog 29 (proportion_Reduce.e) := mkX_ok (proportion_Reduce.tbok) Try.mixed Try.func29 (by kernel_rfl) (proportion_Reduce.eq)
noncomputable def proportion_ReduceP (a0 : Int) (a1 : Int) : Option (Int × Int × Int) := (proportion_Reduce a0 a1 H.empty).bind fun p => rdRes false p.2 (.many [.leaf (.int .i64), .leaf (.int .i64), .leaf (.int .i64)]) (Res.un (.many [.leaf (.int .i64), .leaf (.int .i64), .leaf (.int .i64)]) p.1)
theorem proportion_ReduceP.eq : ∀ x : TT [.leaf (.int .i64), .leaf (.int .i64)], ((evalFn Try.prog (proportion_Reduce.tb) proportion_Reduce.A Try.f29 (.many [.leaf (.int .i64), .leaf (.int .i64), .leaf (.int .i64)]) (TT.lo false [.leaf (.int .i64), .leaf (.int .i64)] x) H.empty).bind fun p => rdRes false p.2 (.many [.leaf (.int .i64), .leaf (.int .i64), .leaf (.int .i64)]) (Res.un (.many [.leaf (.int .i64), .leaf (.int .i64), .leaf (.int .i64)]) p.1)) = proportion_ReduceP x.1 x.2 := by
  intro x
  rw [show TT.lo false [.leaf (.int .i64), .leaf (.int .i64)] x = TT.un [.leaf (.int .i64), .leaf (.int .i64)] (x.1, x.2) from rfl, proportion_Reduce.eq]
  rfl
noncomputable def proportion_ReduceP.e : Entry := mkP [.leaf (.int .i64), .leaf (.int .i64)] (.many [.leaf (.int .i64), .leaf (.int .i64), .leaf (.int .i64)]) fun x => proportion_ReduceP x.1 x.2
theorem proportion_ReduceP.ok : EntryOK Try.prog 29 (proportion_ReduceP.e) := mkP_ok (proportion_Reduce.tbok) Try.mixed Try.func29 (by kernel_rfl) proportion_ReduceP.eq

/-! ### spile/spilelaw01.awake: function 15 -/
noncomputable def spilelaw01_awake.tb : Table := tab [(16, proportion_OfP.e), (18, proportion_UpP.e), (20, proportion_CompareP.e), (23, proportion_DrawP.e), (25, slices_Equal_int_intP.e), (28, proportion_DivideP.e), (29, proportion_ReduceP.e)] [] Table.nil
theorem spilelaw01_awake.tbok : TabOK Try.prog (spilelaw01_awake.tb) := TabOK.tab (TabOK.nil Try.prog) (all_cons proportion_OfP.ok (all_cons proportion_UpP.ok (all_cons proportion_CompareP.ok (all_cons proportion_DrawP.ok (all_cons slices_Equal_int_intP.ok (all_cons proportion_DivideP.ok (all_cons proportion_ReduceP.ok (all_nil _)))))))) (all_nil _)
noncomputable def spilelaw01_awake (h : H) : Option ((Bool) × H) :=
((proportion_OfP 7 5 4).bind fun (r1, r2, r3) =>
((proportion_UpP 7 5 4).bind fun (r4, r5) =>
((proportion_CompareP 2 3 3 4).bind fun (r6, r7) =>
((rdRow true h [.int .i64] ⟨.lp true ([.int .i64 1, .int .i64 1, .int .i64 1]) 0, 3, 3, false⟩).bind fun s10 =>
((proportion_DivideP 10 s10).bind fun (r8, r9) =>
((rdRow true h [.int .i64] ⟨.lp true ([.int .i64 2, .int .i64 0, .int .i64 5]) 0, 3, 3, false⟩).bind fun s13 =>
((proportion_DivideP 10 s13).bind fun (r11, r12) =>
((rdRow true h [.int .i64] ⟨.lp true ([.int .i64 4, .int .i64 9, .int .i64 2]) 0, 3, 3, false⟩).bind fun s17 =>
((proportion_DrawP s17 10).bind fun (r14, r15, r16) =>
((proportion_ReduceP 12 18).bind fun (r18, r19, r20) =>
(((bif (decide (r3 = 0)) then (bif (decide (r5 = 0)) then (bif (decide (r7 = 0)) then (bif (decide (r9 = 0)) then (bif (decide (r12 = 0)) then (bif (decide (r16 = 0)) then (bif (decide (r20 = 0)) then (bif (decide (r1 = 8)) then (bif (decide (r2 = 3)) then (bif (decide (r4 = 9)) then (bif (decide (r6 = (-1))) then ((rdRow true h [.int .i64] (rowSV true [.int .i64] r8)).bind fun s22 =>
((rdRow true h [.int .i64] ⟨.lp true ([.int .i64 4, .int .i64 3, .int .i64 3]) 0, 3, 3, false⟩).bind fun s23 =>
((slices_Equal_int_intP s22 s23).bind fun r21 =>
(bif r21 then ((rdRow true h [.int .i64] (rowSV true [.int .i64] r11)).bind fun s25 =>
((rdRow true h [.int .i64] ⟨.lp true ([.int .i64 3, .int .i64 0, .int .i64 7]) 0, 3, 3, false⟩).bind fun s26 =>
((slices_Equal_int_intP s25 s26).bind fun r24 =>
(bif r24 then ((rdRow true h [.int .i64] (rowSV true [.int .i64] r14)).bind fun s28 =>
((rdRow true h [.int .i64] ⟨.lp true ([.int .i64 3, .int .i64 6, .int .i64 1]) 0, 3, 3, false⟩).bind fun s29 =>
((slices_Equal_int_intP s28 s29).bind fun r27 =>
(bif r27 then ((rdRow true h [.int .i64] (rowSV true [.int .i64] r15)).bind fun s31 =>
((rdRow true h [.int .i64] ⟨.lp true ([.int .i64 1, .int .i64 3, .int .i64 1]) 0, 3, 3, false⟩).bind fun s32 =>
((slices_Equal_int_intP s31 s32).bind fun r30 =>
(bif r30 then (bif (decide (r18 = 2)) then (some ((decide (r19 = 3)), h)) else (some (false, h))) else (some (false, h)))))) else (some (false, h)))))) else (some (false, h)))))) else (some (false, h)))))) else (some (false, h))) else (some (false, h))) else (some (false, h))) else (some (false, h))) else (some (false, h))) else (some (false, h))) else (some (false, h))) else (some (false, h))) else (some (false, h))) else (some (false, h))) else (some (false, h)))).bind fun (y33, h34) =>
(some (y33, h34)))))))))))))
def spilelaw01_awake.A : Ann := { lits := [], conds := [], loops := [], regs := [(8, [0], [.leaf .bool])] }
theorem spilelaw01_awake.eq : ∀ (x : TT []) (h : H), evalFn Try.prog (spilelaw01_awake.tb) spilelaw01_awake.A Try.f15 (.one (.leaf .bool)) (TT.un [] x) h = spilelaw01_awake  h := by
  intro x h
  kernel_rfl
noncomputable def spilelaw01_awake.e : Entry := mkX [] (.one (.leaf .bool)) fun x h => spilelaw01_awake  h
theorem spilelaw01_awake.ok : EntryOK Try.prog 15 (spilelaw01_awake.e) := mkX_ok (spilelaw01_awake.tbok) Try.mixed Try.func15 (by kernel_rfl) (spilelaw01_awake.eq)
noncomputable def spilelaw01_awakeP : Option (Bool) := (spilelaw01_awake H.empty).bind fun p => rdRes false p.2 (.one (.leaf .bool)) (Res.un (.one (.leaf .bool)) p.1)
theorem spilelaw01_awakeP.eq : ∀ x : TT [], ((evalFn Try.prog (spilelaw01_awake.tb) spilelaw01_awake.A Try.f15 (.one (.leaf .bool)) (TT.lo false [] x) H.empty).bind fun p => rdRes false p.2 (.one (.leaf .bool)) (Res.un (.one (.leaf .bool)) p.1)) = spilelaw01_awakeP  := by
  intro x
  rw [show TT.lo false [] x = TT.un [] () from rfl, spilelaw01_awake.eq]
  rfl
noncomputable def spilelaw01_awakeP.e : Entry := mkP [] (.one (.leaf .bool)) fun x => spilelaw01_awakeP 
theorem spilelaw01_awakeP.ok : EntryOK Try.prog 15 (spilelaw01_awakeP.e) := mkP_ok (spilelaw01_awake.tbok) Try.mixed Try.func15 (by kernel_rfl) spilelaw01_awakeP.eq

/-! ### spile/spileref01.Is: function 56 -/
noncomputable def spileref01_Is.tb : Table := tab [] [] Table.nil
theorem spileref01_Is.tbok : TabOK Try.prog (spileref01_Is.tb) := TabOK.tab (TabOK.nil Try.prog) (all_nil _) (all_nil _)
noncomputable def spileref01_Is (a0 : Int) (h : H) : Option ((Bool) × H) :=
(((bif (decide ((0 : Int) ≤ a0)) then (some ((decide (a0 ≤ 128849018880000)), h)) else (some (false, h)))).bind fun (y1, h2) =>
(some (y1, h2)))
def spileref01_Is.A : Ann := { lits := [], conds := [], loops := [], regs := [(1, [2], [.leaf .bool])] }
theorem spileref01_Is.eq : ∀ (x : TT [.leaf (.int .i64)]) (h : H), evalFn Try.prog (spileref01_Is.tb) spileref01_Is.A Try.f56 (.one (.leaf .bool)) (TT.un [.leaf (.int .i64)] x) h = spileref01_Is x h := by
  intro x h
  kernel_rfl
noncomputable def spileref01_Is.e : Entry := mkX [.leaf (.int .i64)] (.one (.leaf .bool)) fun x h => spileref01_Is x h
theorem spileref01_Is.ok : EntryOK Try.prog 56 (spileref01_Is.e) := mkX_ok (spileref01_Is.tbok) Try.mixed Try.func56 (by kernel_rfl) (spileref01_Is.eq)
noncomputable def spileref01_IsP (a0 : Int) : Option (Bool) := (spileref01_Is a0 H.empty).bind fun p => rdRes false p.2 (.one (.leaf .bool)) (Res.un (.one (.leaf .bool)) p.1)
theorem spileref01_IsP.eq : ∀ x : TT [.leaf (.int .i64)], ((evalFn Try.prog (spileref01_Is.tb) spileref01_Is.A Try.f56 (.one (.leaf .bool)) (TT.lo false [.leaf (.int .i64)] x) H.empty).bind fun p => rdRes false p.2 (.one (.leaf .bool)) (Res.un (.one (.leaf .bool)) p.1)) = spileref01_IsP x := by
  intro x
  rw [show TT.lo false [.leaf (.int .i64)] x = TT.un [.leaf (.int .i64)] (x) from rfl, spileref01_Is.eq]
  rfl
noncomputable def spileref01_IsP.e : Entry := mkP [.leaf (.int .i64)] (.one (.leaf .bool)) fun x => spileref01_IsP x
theorem spileref01_IsP.ok : EntryOK Try.prog 56 (spileref01_IsP.e) := mkP_ok (spileref01_Is.tbok) Try.mixed Try.func56 (by kernel_rfl) spileref01_IsP.eq

/-! ### spile/spileref01.three: function 52 -/
noncomputable def spileref01_three.tb : Table := tab [(56, spileref01_IsP.e)] [] Table.nil
theorem spileref01_three.tbok : TabOK Try.prog (spileref01_three.tb) := TabOK.tab (TabOK.nil Try.prog) (all_cons spileref01_IsP.ok (all_nil _)) (all_nil _)
noncomputable def spileref01_three (a0 : Int) (a1 : Int) (a2 : Int) (h : H) : Option ((Int) × H) :=
((((spileref01_IsP a0).bind fun r1 =>
(bif !(!r1) then ((spileref01_IsP a1).bind fun r2 =>
(bif !(!r2) then ((spileref01_IsP a2).bind fun r3 =>
(some ((!r3), h))) else (some (true, h)))) else (some (true, h))))).bind fun (y4, h5) =>
(bif y4 then (some (2, h5)) else (bif (decide (a2 = 0)) then (some (16, h5)) else (some (0, h5)))))
def spileref01_three.A : Ann := { lits := [], conds := [], loops := [], regs := [(1, [19], [.leaf .bool])] }
theorem spileref01_three.eq : ∀ (x : TT [.leaf (.int .i64), .leaf (.int .i64), .leaf (.int .i64)]) (h : H), evalFn Try.prog (spileref01_three.tb) spileref01_three.A Try.f52 (.one (.leaf (.int .i64))) (TT.un [.leaf (.int .i64), .leaf (.int .i64), .leaf (.int .i64)] x) h = spileref01_three x.1 x.2.1 x.2.2 h := by
  intro x h
  kernel_rfl
noncomputable def spileref01_three.e : Entry := mkX [.leaf (.int .i64), .leaf (.int .i64), .leaf (.int .i64)] (.one (.leaf (.int .i64))) fun x h => spileref01_three x.1 x.2.1 x.2.2 h
theorem spileref01_three.ok : EntryOK Try.prog 52 (spileref01_three.e) := mkX_ok (spileref01_three.tbok) Try.mixed Try.func52 (by kernel_rfl) (spileref01_three.eq)
noncomputable def spileref01_threeP (a0 : Int) (a1 : Int) (a2 : Int) : Option (Int) := (spileref01_three a0 a1 a2 H.empty).bind fun p => rdRes false p.2 (.one (.leaf (.int .i64))) (Res.un (.one (.leaf (.int .i64))) p.1)
theorem spileref01_threeP.eq : ∀ x : TT [.leaf (.int .i64), .leaf (.int .i64), .leaf (.int .i64)], ((evalFn Try.prog (spileref01_three.tb) spileref01_three.A Try.f52 (.one (.leaf (.int .i64))) (TT.lo false [.leaf (.int .i64), .leaf (.int .i64), .leaf (.int .i64)] x) H.empty).bind fun p => rdRes false p.2 (.one (.leaf (.int .i64))) (Res.un (.one (.leaf (.int .i64))) p.1)) = spileref01_threeP x.1 x.2.1 x.2.2 := by
  intro x
  rw [show TT.lo false [.leaf (.int .i64), .leaf (.int .i64), .leaf (.int .i64)] x = TT.un [.leaf (.int .i64), .leaf (.int .i64), .leaf (.int .i64)] (x.1, x.2.1, x.2.2) from rfl, spileref01_three.eq]
  rfl
noncomputable def spileref01_threeP.e : Entry := mkP [.leaf (.int .i64), .leaf (.int .i64), .leaf (.int .i64)] (.one (.leaf (.int .i64))) fun x => spileref01_threeP x.1 x.2.1 x.2.2
theorem spileref01_threeP.ok : EntryOK Try.prog 52 (spileref01_threeP.e) := mkP_ok (spileref01_three.tbok) Try.mixed Try.func52 (by kernel_rfl) spileref01_threeP.eq

/-! ### spile/spileref01.Product: function 57 -/
noncomputable def spileref01_Product.tb : Table := tab [] [] Table.nil
theorem spileref01_Product.tbok : TabOK Try.prog (spileref01_Product.tb) := TabOK.tab (TabOK.nil Try.prog) (all_nil _) (all_nil _)
noncomputable def spileref01_Product (a0 : Int) (a1 : Int) (h : H) : Option (((Int × Int)) × H) :=
(let h1 : H := H.new h [.int .u64 0, .int .u64 0] 2
((H.wrs h1 (.hp h.next 2 0) [.int .u64 (IntKind.wrap .u64 ((IntKind.wrap .u64 ((IntKind.wrap .u64 ((Int.fdiv (IntKind.wrap .u64 (a0)) (2 ^ (min (Int.toNat 31) (IntKind.bits .u64)))) * (Int.fdiv (IntKind.wrap .u64 (a1)) (2 ^ (min (Int.toNat 31) (IntKind.bits .u64)))))) + (Int.fdiv (IntKind.wrap .u64 ((IntKind.wrap .u64 ((bitsI .and .u64 (IntKind.wrap .u64 (a0)) 2147483647) * (Int.fdiv (IntKind.wrap .u64 (a1)) (2 ^ (min (Int.toNat 31) (IntKind.bits .u64)))))) + (Int.fdiv (IntKind.wrap .u64 ((bitsI .and .u64 (IntKind.wrap .u64 (a0)) 2147483647) * (bitsI .and .u64 (IntKind.wrap .u64 (a1)) 2147483647))) (2 ^ (min (Int.toNat 31) (IntKind.bits .u64)))))) (2 ^ (min (Int.toNat 31) (IntKind.bits .u64)))))) + (Int.fdiv (IntKind.wrap .u64 ((IntKind.wrap .u64 ((Int.fdiv (IntKind.wrap .u64 (a0)) (2 ^ (min (Int.toNat 31) (IntKind.bits .u64)))) * (bitsI .and .u64 (IntKind.wrap .u64 (a1)) 2147483647))) + (bitsI .and .u64 (IntKind.wrap .u64 ((IntKind.wrap .u64 ((bitsI .and .u64 (IntKind.wrap .u64 (a0)) 2147483647) * (Int.fdiv (IntKind.wrap .u64 (a1)) (2 ^ (min (Int.toNat 31) (IntKind.bits .u64)))))) + (Int.fdiv (IntKind.wrap .u64 ((bitsI .and .u64 (IntKind.wrap .u64 (a0)) 2147483647) * (bitsI .and .u64 (IntKind.wrap .u64 (a1)) 2147483647))) (2 ^ (min (Int.toNat 31) (IntKind.bits .u64)))))) 2147483647))) (2 ^ (min (Int.toNat 31) (IntKind.bits .u64)))))), .int .u64 (bitsI .or .u64 (IntKind.wrap .u64 ((bitsI .and .u64 (IntKind.wrap .u64 ((IntKind.wrap .u64 ((Int.fdiv (IntKind.wrap .u64 (a0)) (2 ^ (min (Int.toNat 31) (IntKind.bits .u64)))) * (bitsI .and .u64 (IntKind.wrap .u64 (a1)) 2147483647))) + (bitsI .and .u64 (IntKind.wrap .u64 ((IntKind.wrap .u64 ((bitsI .and .u64 (IntKind.wrap .u64 (a0)) 2147483647) * (Int.fdiv (IntKind.wrap .u64 (a1)) (2 ^ (min (Int.toNat 31) (IntKind.bits .u64)))))) + (Int.fdiv (IntKind.wrap .u64 ((bitsI .and .u64 (IntKind.wrap .u64 (a0)) 2147483647) * (bitsI .and .u64 (IntKind.wrap .u64 (a1)) 2147483647))) (2 ^ (min (Int.toNat 31) (IntKind.bits .u64)))))) 2147483647))) 2147483647) * 2 ^ (min (Int.toNat 31) (IntKind.bits .u64)))) (bitsI .and .u64 (IntKind.wrap .u64 ((bitsI .and .u64 (IntKind.wrap .u64 (a0)) 2147483647) * (bitsI .and .u64 (IntKind.wrap .u64 (a1)) 2147483647))) 2147483647))]).bind fun h2 =>
((rdT (.agg [.int .u64, .int .u64]) h2 (.hp h.next 2 0 : V)).bind fun (x3_0, x3_1) =>
(some ((x3_0, x3_1), h2)))))
def spileref01_Product.A : Ann := { lits := [], conds := [], loops := [], regs := [] }
theorem spileref01_Product.eq : ∀ (x : TT [.leaf (.int .i64), .leaf (.int .i64)]) (h : H), evalFn Try.prog (spileref01_Product.tb) spileref01_Product.A Try.f57 (.one (.agg [.int .u64, .int .u64])) (TT.un [.leaf (.int .i64), .leaf (.int .i64)] x) h = spileref01_Product x.1 x.2 h := by
  intro x h
  kernel_rfl
noncomputable def spileref01_Product.e : Entry := mkX [.leaf (.int .i64), .leaf (.int .i64)] (.one (.agg [.int .u64, .int .u64])) fun x h => spileref01_Product x.1 x.2 h
theorem spileref01_Product.ok : EntryOK Try.prog 57 (spileref01_Product.e) := mkX_ok (spileref01_Product.tbok) Try.mixed Try.func57 (by kernel_rfl) (spileref01_Product.eq)
noncomputable def spileref01_ProductP (a0 : Int) (a1 : Int) : Option ((Int × Int)) := (spileref01_Product a0 a1 H.empty).bind fun p => rdRes false p.2 (.one (.agg [.int .u64, .int .u64])) (Res.un (.one (.agg [.int .u64, .int .u64])) p.1)
theorem spileref01_ProductP.eq : ∀ x : TT [.leaf (.int .i64), .leaf (.int .i64)], ((evalFn Try.prog (spileref01_Product.tb) spileref01_Product.A Try.f57 (.one (.agg [.int .u64, .int .u64])) (TT.lo false [.leaf (.int .i64), .leaf (.int .i64)] x) H.empty).bind fun p => rdRes false p.2 (.one (.agg [.int .u64, .int .u64])) (Res.un (.one (.agg [.int .u64, .int .u64])) p.1)) = spileref01_ProductP x.1 x.2 := by
  intro x
  rw [show TT.lo false [.leaf (.int .i64), .leaf (.int .i64)] x = TT.un [.leaf (.int .i64), .leaf (.int .i64)] (x.1, x.2) from rfl, spileref01_Product.eq]
  rfl
noncomputable def spileref01_ProductP.e : Entry := mkP [.leaf (.int .i64), .leaf (.int .i64)] (.one (.agg [.int .u64, .int .u64])) fun x => spileref01_ProductP x.1 x.2
theorem spileref01_ProductP.ok : EntryOK Try.prog 57 (spileref01_ProductP.e) := mkP_ok (spileref01_Product.tbok) Try.mixed Try.func57 (by kernel_rfl) spileref01_ProductP.eq

/-! ### spile/spileref01.Less: function 58 -/
noncomputable def spileref01_Less.tb : Table := tab [] [] Table.nil
theorem spileref01_Less.tbok : TabOK Try.prog (spileref01_Less.tb) := TabOK.tab (TabOK.nil Try.prog) (all_nil _) (all_nil _)
noncomputable def spileref01_Less (a0 : (Int × Int)) (a1 : (Int × Int)) (h : H) : Option ((Bool) × H) :=
(match a0 with
| (a0_0, a0_1) =>
(match a1 with
| (a1_0, a1_1) =>
(let h1 : H := H.new h [.int .u64 a0_0, .int .u64 a0_1] 2
(let h2 : H := H.new h1 [.int .u64 a1_0, .int .u64 a1_1] 2
((((rdT (.leaf (.int .u64)) h2 (.hp h.next 2 0)).bind fun x3 =>
((rdT (.leaf (.int .u64)) h2 (.hp h1.next 2 0)).bind fun x4 =>
(bif !(decide (x3 < x4)) then ((rdT (.leaf (.int .u64)) h2 (.hp h.next 2 0)).bind fun x5 =>
((rdT (.leaf (.int .u64)) h2 (.hp h1.next 2 0)).bind fun x6 =>
(bif (decide (x5 = x6)) then ((rdT (.leaf (.int .u64)) h2 (.hp h.next 2 1)).bind fun x7 =>
((rdT (.leaf (.int .u64)) h2 (.hp h1.next 2 1)).bind fun x8 =>
(some ((decide (x7 < x8)), h2)))) else (some (false, h2))))) else (some (true, h2)))))).bind fun (y9, h10) =>
(some (y9, h10)))))))
def spileref01_Less.A : Ann := { lits := [], conds := [], loops := [], regs := [(1, [4], [.leaf .bool])] }
theorem spileref01_Less.eq : ∀ (x : TT [.agg [.int .u64, .int .u64], .agg [.int .u64, .int .u64]]) (h : H), evalFn Try.prog (spileref01_Less.tb) spileref01_Less.A Try.f58 (.one (.leaf .bool)) (TT.un [.agg [.int .u64, .int .u64], .agg [.int .u64, .int .u64]] x) h = spileref01_Less x.1 x.2 h := by
  intro x h
  kernel_rfl
noncomputable def spileref01_Less.e : Entry := mkX [.agg [.int .u64, .int .u64], .agg [.int .u64, .int .u64]] (.one (.leaf .bool)) fun x h => spileref01_Less x.1 x.2 h
theorem spileref01_Less.ok : EntryOK Try.prog 58 (spileref01_Less.e) := mkX_ok (spileref01_Less.tbok) Try.mixed Try.func58 (by kernel_rfl) (spileref01_Less.eq)
noncomputable def spileref01_LessP (a0 : (Int × Int)) (a1 : (Int × Int)) : Option (Bool) := (spileref01_Less a0 a1 H.empty).bind fun p => rdRes false p.2 (.one (.leaf .bool)) (Res.un (.one (.leaf .bool)) p.1)
theorem spileref01_LessP.eq : ∀ x : TT [.agg [.int .u64, .int .u64], .agg [.int .u64, .int .u64]], ((evalFn Try.prog (spileref01_Less.tb) spileref01_Less.A Try.f58 (.one (.leaf .bool)) (TT.lo false [.agg [.int .u64, .int .u64], .agg [.int .u64, .int .u64]] x) H.empty).bind fun p => rdRes false p.2 (.one (.leaf .bool)) (Res.un (.one (.leaf .bool)) p.1)) = spileref01_LessP x.1 x.2 := by
  intro x
  rw [show TT.lo false [.agg [.int .u64, .int .u64], .agg [.int .u64, .int .u64]] x = TT.un [.agg [.int .u64, .int .u64], .agg [.int .u64, .int .u64]] (x.1, x.2) from rfl, spileref01_Less.eq]
  rfl
noncomputable def spileref01_LessP.e : Entry := mkP [.agg [.int .u64, .int .u64], .agg [.int .u64, .int .u64]] (.one (.leaf .bool)) fun x => spileref01_LessP x.1 x.2
theorem spileref01_LessP.ok : EntryOK Try.prog 58 (spileref01_LessP.e) := mkP_ok (spileref01_Less.tbok) Try.mixed Try.func58 (by kernel_rfl) spileref01_LessP.eq

/-! ### spile/spileref01.minus: function 80 -/
noncomputable def spileref01_minus.tb : Table := tab [] [] Table.nil
theorem spileref01_minus.tbok : TabOK Try.prog (spileref01_minus.tb) := TabOK.tab (TabOK.nil Try.prog) (all_nil _) (all_nil _)
noncomputable def spileref01_minus (a0 : (Int × Int)) (a1 : (Int × Int)) (h : H) : Option (((Int × Int)) × H) :=
(match a0 with
| (a0_0, a0_1) =>
(match a1 with
| (a1_0, a1_1) =>
(let h1 : H := H.new h [.int .u64 a0_0, .int .u64 a0_1] 2
(let h2 : H := H.new h1 [.int .u64 a1_0, .int .u64 a1_1] 2
(let h3 : H := H.new h2 [.int .u64 0, .int .u64 0] 2
((rdT (.leaf (.int .u64)) h3 (.hp h.next 2 1)).bind fun x4 =>
((rdT (.leaf (.int .u64)) h3 (.hp h1.next 2 1)).bind fun x5 =>
(bif (decide (x4 < x5)) then ((rdT (.leaf (.int .u64)) h3 (.hp h.next 2 0)).bind fun x6 =>
((rdT (.leaf (.int .u64)) h3 (.hp h1.next 2 0)).bind fun x7 =>
((rdT (.leaf (.int .u64)) h3 (.hp h.next 2 1)).bind fun x8 =>
((rdT (.leaf (.int .u64)) h3 (.hp h1.next 2 1)).bind fun x9 =>
((H.wrs h3 (.hp h2.next 2 0) [.int .u64 (IntKind.wrap .u64 ((IntKind.wrap .u64 (x6 - x7)) - 1)), .int .u64 (IntKind.wrap .u64 ((IntKind.wrap .u64 (x8 + 4611686018427387904)) - x9))]).bind fun h10 =>
((rdT (.agg [.int .u64, .int .u64]) h10 (.hp h2.next 2 0 : V)).bind fun (x11_0, x11_1) =>
(some ((x11_0, x11_1), h10)))))))) else ((rdT (.leaf (.int .u64)) h3 (.hp h.next 2 0)).bind fun x12 =>
((rdT (.leaf (.int .u64)) h3 (.hp h1.next 2 0)).bind fun x13 =>
((rdT (.leaf (.int .u64)) h3 (.hp h.next 2 1)).bind fun x14 =>
((rdT (.leaf (.int .u64)) h3 (.hp h1.next 2 1)).bind fun x15 =>
((H.wrs h3 (.hp h2.next 2 0) [.int .u64 (IntKind.wrap .u64 (x12 - x13)), .int .u64 (IntKind.wrap .u64 (x14 - x15))]).bind fun h16 =>
((rdT (.agg [.int .u64, .int .u64]) h16 (.hp h2.next 2 0 : V)).bind fun (x17_0, x17_1) =>
(some ((x17_0, x17_1), h16))))))))))))))))
def spileref01_minus.A : Ann := { lits := [], conds := [], loops := [], regs := [] }
theorem spileref01_minus.eq : ∀ (x : TT [.agg [.int .u64, .int .u64], .agg [.int .u64, .int .u64]]) (h : H), evalFn Try.prog (spileref01_minus.tb) spileref01_minus.A Try.f80 (.one (.agg [.int .u64, .int .u64])) (TT.un [.agg [.int .u64, .int .u64], .agg [.int .u64, .int .u64]] x) h = spileref01_minus x.1 x.2 h := by
  intro x h
  kernel_rfl
noncomputable def spileref01_minus.e : Entry := mkX [.agg [.int .u64, .int .u64], .agg [.int .u64, .int .u64]] (.one (.agg [.int .u64, .int .u64])) fun x h => spileref01_minus x.1 x.2 h
theorem spileref01_minus.ok : EntryOK Try.prog 80 (spileref01_minus.e) := mkX_ok (spileref01_minus.tbok) Try.mixed Try.func80 (by kernel_rfl) (spileref01_minus.eq)
noncomputable def spileref01_minusP (a0 : (Int × Int)) (a1 : (Int × Int)) : Option ((Int × Int)) := (spileref01_minus a0 a1 H.empty).bind fun p => rdRes false p.2 (.one (.agg [.int .u64, .int .u64])) (Res.un (.one (.agg [.int .u64, .int .u64])) p.1)
theorem spileref01_minusP.eq : ∀ x : TT [.agg [.int .u64, .int .u64], .agg [.int .u64, .int .u64]], ((evalFn Try.prog (spileref01_minus.tb) spileref01_minus.A Try.f80 (.one (.agg [.int .u64, .int .u64])) (TT.lo false [.agg [.int .u64, .int .u64], .agg [.int .u64, .int .u64]] x) H.empty).bind fun p => rdRes false p.2 (.one (.agg [.int .u64, .int .u64])) (Res.un (.one (.agg [.int .u64, .int .u64])) p.1)) = spileref01_minusP x.1 x.2 := by
  intro x
  rw [show TT.lo false [.agg [.int .u64, .int .u64], .agg [.int .u64, .int .u64]] x = TT.un [.agg [.int .u64, .int .u64], .agg [.int .u64, .int .u64]] (x.1, x.2) from rfl, spileref01_minus.eq]
  rfl
noncomputable def spileref01_minusP.e : Entry := mkP [.agg [.int .u64, .int .u64], .agg [.int .u64, .int .u64]] (.one (.agg [.int .u64, .int .u64])) fun x => spileref01_minusP x.1 x.2
theorem spileref01_minusP.ok : EntryOK Try.prog 80 (spileref01_minusP.e) := mkP_ok (spileref01_minus.tbok) Try.mixed Try.func80 (by kernel_rfl) spileref01_minusP.eq

/-! ### spile/spileref01.Of: function 53 -/
noncomputable def spileref01_Of.tb : Table := tab [(57, spileref01_ProductP.e), (58, spileref01_LessP.e), (80, spileref01_minusP.e)] [] Table.nil
theorem spileref01_Of.tbok : TabOK Try.prog (spileref01_Of.tb) := TabOK.tab (TabOK.nil Try.prog) (all_cons spileref01_ProductP.ok (all_cons spileref01_LessP.ok (all_cons spileref01_minusP.ok (all_nil _)))) (all_nil _)
noncomputable def spileref01_Of.loop1 (h : H) (a2 : Int) (a3 : Int) : (Int × Int) × H → Option (Stp ((Int × Int) × H) (Flow (Int) (Int × Int × Bool) × H)) := fun ((y14, y15), h16) =>
(bif (decide ((0 : Int) < y15)) then (((let h17 : H := H.reserve h16 0
(bif (decide ((IntKind.wrap .i64 (y14 + y15)) ≤ a3)) then ((rdT (.agg [.int .u64, .int .u64]) h17 (.hp h.next 2 0)).bind fun (x18_0, x18_1) =>
((spileref01_ProductP (IntKind.wrap .i64 (y14 + y15)) a2).bind fun (r19_0, r19_1) =>
((spileref01_LessP (x18_0, x18_1) (r19_0, r19_1)).bind fun r20 =>
(some ((!r20), h17))))) else (some (false, h17))))).bind fun (y21, h22) =>
((bif y21 then (some (.next (IntKind.wrap .i64 (y14 + y15)), h22)) else (some (.next y14, h22)) : Option (Flow (Int) (Int × Int × Bool) × H)).bind fun (fl24, h23) => match fl24 with
| .next y25 =>
(some (.more ((y25, (IntKind.wrap .i64 (Int.tdiv y15 2))), h23)))
| .ret rr26 => (some (.done (.ret rr26, h23)))
| .ex0 _ => none
| .ex1 _ => none)) else (some (.done (.ex0 y14, h16))))
noncomputable def spileref01_Of (a0 : Int) (a1 : Int) (a2 : Int) (a3 : Int) (h : H) : Option ((Int × Int × Bool) × H) :=
((spileref01_ProductP a0 a1).bind fun (r1_0, r1_1) =>
(let h2 : H := H.new h [.int .u64 0, .int .u64 0] 2
((H.wrs h2 (.hp h.next 2 0) [.int .u64 r1_0, .int .u64 r1_1]).bind fun h3 =>
(((let h4 : H := H.reserve h3 0
((spileref01_ProductP a3 a2).bind fun (r5_0, r5_1) =>
((rdT (.agg [.int .u64, .int .u64]) h4 (.hp h.next 2 0)).bind fun (x6_0, x6_1) =>
((spileref01_LessP (r5_0, r5_1) (x6_0, x6_1)).bind fun r7 =>
(bif r7 then ((rdT (.agg [.int .u64, .int .u64]) h4 (.hp h.next 2 0)).bind fun (x8_0, x8_1) =>
((spileref01_ProductP a3 a2).bind fun (r9_0, r9_1) =>
((spileref01_minusP (x8_0, x8_1) (r9_0, r9_1)).bind fun (r10_0, r10_1) =>
((spileref01_LessP (r10_0, r10_1) (0, (IntKind.wrap .u64 (a2)))).bind fun r11 =>
(some ((!r11), h4)))))) else (some (false, h4)))))))).bind fun (y12, h13) =>
(bif y12 then (some ((0, 0, false), h13)) else ((iter FUEL (spileref01_Of.loop1 h a2 a3) ((0, 2305843009213693952), h13)).bind fun (fl28, h27) => match fl28 with
| .next _ => none
| .ret rr29 => (some (rr29, h27))
| .ex0 y30 =>
(let h31 : H := H.reserve h27 0
((rdT (.agg [.int .u64, .int .u64]) h31 (.hp h.next 2 0)).bind fun (x32_0, x32_1) =>
((spileref01_ProductP y30 a2).bind fun (r33_0, r33_1) =>
((spileref01_minusP (x32_0, x32_1) (r33_0, r33_1)).bind fun (r34_0, r34_1) =>
(some ((y30, (IntKind.wrap .i64 (r34_1)), true), h31))))))
| .ex1 _ => none))))))
def spileref01_Of.A : Ann := { lits := [], conds := [(52, [12], [.leaf (.int .i64)], none, none)], loops := [(6, [12, 13], [.leaf (.int .i64), .leaf (.int .i64)], [12], [.leaf (.int .i64)], some 0, none)], regs := [(2, [33], [.leaf .bool]), (8, [52], [.leaf .bool])] }
theorem spileref01_Of.eq : ∀ (x : TT [.leaf (.int .i64), .leaf (.int .i64), .leaf (.int .i64), .leaf (.int .i64)]) (h : H), evalFn Try.prog (spileref01_Of.tb) spileref01_Of.A Try.f53 (.many [.leaf (.int .i64), .leaf (.int .i64), .leaf .bool]) (TT.un [.leaf (.int .i64), .leaf (.int .i64), .leaf (.int .i64), .leaf (.int .i64)] x) h = spileref01_Of x.1 x.2.1 x.2.2.1 x.2.2.2 h := by
  intro x h
  kernel_rfl
noncomputable def spileref01_Of.e : Entry := mkX [.leaf (.int .i64), .leaf (.int .i64), .leaf (.int .i64), .leaf (.int .i64)] (.many [.leaf (.int .i64), .leaf (.int .i64), .leaf .bool]) fun x h => spileref01_Of x.1 x.2.1 x.2.2.1 x.2.2.2 h
theorem spileref01_Of.ok : EntryOK Try.prog 53 (spileref01_Of.e) := mkX_ok (spileref01_Of.tbok) Try.mixed Try.func53 (by kernel_rfl) (spileref01_Of.eq)
noncomputable def spileref01_OfP (a0 : Int) (a1 : Int) (a2 : Int) (a3 : Int) : Option (Int × Int × Bool) := (spileref01_Of a0 a1 a2 a3 H.empty).bind fun p => rdRes false p.2 (.many [.leaf (.int .i64), .leaf (.int .i64), .leaf .bool]) (Res.un (.many [.leaf (.int .i64), .leaf (.int .i64), .leaf .bool]) p.1)
theorem spileref01_OfP.eq : ∀ x : TT [.leaf (.int .i64), .leaf (.int .i64), .leaf (.int .i64), .leaf (.int .i64)], ((evalFn Try.prog (spileref01_Of.tb) spileref01_Of.A Try.f53 (.many [.leaf (.int .i64), .leaf (.int .i64), .leaf .bool]) (TT.lo false [.leaf (.int .i64), .leaf (.int .i64), .leaf (.int .i64), .leaf (.int .i64)] x) H.empty).bind fun p => rdRes false p.2 (.many [.leaf (.int .i64), .leaf (.int .i64), .leaf .bool]) (Res.un (.many [.leaf (.int .i64), .leaf (.int .i64), .leaf .bool]) p.1)) = spileref01_OfP x.1 x.2.1 x.2.2.1 x.2.2.2 := by
  intro x
  rw [show TT.lo false [.leaf (.int .i64), .leaf (.int .i64), .leaf (.int .i64), .leaf (.int .i64)] x = TT.un [.leaf (.int .i64), .leaf (.int .i64), .leaf (.int .i64), .leaf (.int .i64)] (x.1, x.2.1, x.2.2.1, x.2.2.2) from rfl, spileref01_Of.eq]
  rfl
noncomputable def spileref01_OfP.e : Entry := mkP [.leaf (.int .i64), .leaf (.int .i64), .leaf (.int .i64), .leaf (.int .i64)] (.many [.leaf (.int .i64), .leaf (.int .i64), .leaf .bool]) fun x => spileref01_OfP x.1 x.2.1 x.2.2.1 x.2.2.2
theorem spileref01_OfP.ok : EntryOK Try.prog 53 (spileref01_OfP.e) := mkP_ok (spileref01_Of.tbok) Try.mixed Try.func53 (by kernel_rfl) spileref01_OfP.eq

/-! ### spile/spileref01.OfChecked: function 17 -/
noncomputable def spileref01_OfChecked.tb : Table := tab [(52, spileref01_threeP.e), (53, spileref01_OfP.e)] [] Table.nil
theorem spileref01_OfChecked.tbok : TabOK Try.prog (spileref01_OfChecked.tb) := TabOK.tab (TabOK.nil Try.prog) (all_cons spileref01_threeP.ok (all_cons spileref01_OfP.ok (all_nil _))) (all_nil _)
noncomputable def spileref01_OfChecked (a0 : Int) (a1 : Int) (a2 : Int) (h : H) : Option ((Int × Int × Int) × H) :=
((spileref01_threeP a0 a1 a2).bind fun r1 =>
(bif (!(decide (r1 = 0))) then (some ((0, 0, r1), h)) else ((spileref01_OfP a0 a1 a2 128849018880000).bind fun (r2, r3, r4) =>
(bif (!r4) then (some ((0, 0, 15), h)) else (some ((r2, r3, 0), h))))))
def spileref01_OfChecked.A : Ann := { lits := [], conds := [], loops := [], regs := [] }
theorem spileref01_OfChecked.eq : ∀ (x : TT [.leaf (.int .i64), .leaf (.int .i64), .leaf (.int .i64)]) (h : H), evalFn Try.prog (spileref01_OfChecked.tb) spileref01_OfChecked.A Try.f17 (.many [.leaf (.int .i64), .leaf (.int .i64), .leaf (.int .i64)]) (TT.un [.leaf (.int .i64), .leaf (.int .i64), .leaf (.int .i64)] x) h = spileref01_OfChecked x.1 x.2.1 x.2.2 h := by
  intro x h
  kernel_rfl
noncomputable def spileref01_OfChecked.e : Entry := mkX [.leaf (.int .i64), .leaf (.int .i64), .leaf (.int .i64)] (.many [.leaf (.int .i64), .leaf (.int .i64), .leaf (.int .i64)]) fun x h => spileref01_OfChecked x.1 x.2.1 x.2.2 h
theorem spileref01_OfChecked.ok : EntryOK Try.prog 17 (spileref01_OfChecked.e) := mkX_ok (spileref01_OfChecked.tbok) Try.mixed Try.func17 (by kernel_rfl) (spileref01_OfChecked.eq)
noncomputable def spileref01_OfCheckedP (a0 : Int) (a1 : Int) (a2 : Int) : Option (Int × Int × Int) := (spileref01_OfChecked a0 a1 a2 H.empty).bind fun p => rdRes false p.2 (.many [.leaf (.int .i64), .leaf (.int .i64), .leaf (.int .i64)]) (Res.un (.many [.leaf (.int .i64), .leaf (.int .i64), .leaf (.int .i64)]) p.1)
theorem spileref01_OfCheckedP.eq : ∀ x : TT [.leaf (.int .i64), .leaf (.int .i64), .leaf (.int .i64)], ((evalFn Try.prog (spileref01_OfChecked.tb) spileref01_OfChecked.A Try.f17 (.many [.leaf (.int .i64), .leaf (.int .i64), .leaf (.int .i64)]) (TT.lo false [.leaf (.int .i64), .leaf (.int .i64), .leaf (.int .i64)] x) H.empty).bind fun p => rdRes false p.2 (.many [.leaf (.int .i64), .leaf (.int .i64), .leaf (.int .i64)]) (Res.un (.many [.leaf (.int .i64), .leaf (.int .i64), .leaf (.int .i64)]) p.1)) = spileref01_OfCheckedP x.1 x.2.1 x.2.2 := by
  intro x
  rw [show TT.lo false [.leaf (.int .i64), .leaf (.int .i64), .leaf (.int .i64)] x = TT.un [.leaf (.int .i64), .leaf (.int .i64), .leaf (.int .i64)] (x.1, x.2.1, x.2.2) from rfl, spileref01_OfChecked.eq]
  rfl
noncomputable def spileref01_OfCheckedP.e : Entry := mkP [.leaf (.int .i64), .leaf (.int .i64), .leaf (.int .i64)] (.many [.leaf (.int .i64), .leaf (.int .i64), .leaf (.int .i64)]) fun x => spileref01_OfCheckedP x.1 x.2.1 x.2.2
theorem spileref01_OfCheckedP.ok : EntryOK Try.prog 17 (spileref01_OfCheckedP.e) := mkP_ok (spileref01_OfChecked.tbok) Try.mixed Try.func17 (by kernel_rfl) spileref01_OfCheckedP.eq
end Go.Proofs.Ytadlfinlbaogeaa
