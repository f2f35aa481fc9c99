/- The functions of the program as Lean functions, each with the equation by which the evaluator is that function. Written by a program of this session (evdrive.py). Conditions: none. -/
import Derived.Test.YtfkabibbaajfhaaProg
import Derived.Test.YtfkabibbaajfhaaEvSpec
import Derived.Test.YtfkabibbaajfhaaFn2
namespace Go.Proofs.Ytfkabibbaajfhaa
open Go Go.Proofs.Ytfkabibbaajfhaa.Ev
set_option maxRecDepth 100000
set_option linter.unusedVariables false
/-! ### slices.insertionSortCmpFunc[[2]int]: function 85 -/
noncomputable def slices_insertionSortCmpFunc_2_int.tb (T : Table) : Table := tab [] [] T
theorem slices_insertionSortCmpFunc_2_int.tbok (T : Table) (hT : TabOK Try.prog T) : TabOK Try.prog (slices_insertionSortCmpFunc_2_int.tb T) := TabOK.tab (hT) (all_nil _) (all_nil _)
noncomputable def slices_insertionSortCmpFunc_2_int.loop1 (T : Table) (a0 : SV) (a1 : Int) (a3 : V) : (Int) × H → Option (Stp ((Int) × H) (Flow (Unit) (Unit) × H)) := fun (y3, h4) =>
(((let h5 : H := H.reserve h4 0
(bif (decide (a1 < y3)) then (guardO (0 ≤ y3 ∧ y3 < ((a0.len : Nat) : Int)) ((rdT (.agg [.int .i64, .int .i64]) h5 (V.add a0.a (Int.toNat y3 * 2))).bind fun (x6_0, x6_1) =>
(guardO (0 ≤ (IntKind.wrap .i64 (y3 - 1)) ∧ (IntKind.wrap .i64 (y3 - 1)) < ((a0.len : Nat) : Int)) ((rdT (.agg [.int .i64, .int .i64]) h5 (V.add a0.a (Int.toNat (IntKind.wrap .i64 (y3 - 1)) * 2))).bind fun (x7_0, x7_1) =>
(callV T.dy a3 [.agg [.int .i64 x6_0, .int .i64 x6_1], .agg [.int .i64 x7_0, .int .i64 x7_1]] h5 fun v8 h9 =>
(Res.pack (.one (.leaf (.int .i64))) v8).bind fun r10 =>
(some ((decide (r10 < 0)), h9))))))) else (some (false, h5))))).bind fun (y11, h12) =>
(bif y11 then (let h13 : H := H.reserve h12 0
(guardO (0 ≤ (IntKind.wrap .i64 (y3 - 1)) ∧ (IntKind.wrap .i64 (y3 - 1)) < ((a0.len : Nat) : Int)) ((rdT (.agg [.int .i64, .int .i64]) h13 (V.add a0.a (Int.toNat (IntKind.wrap .i64 (y3 - 1)) * 2))).bind fun (x14_0, x14_1) =>
(guardO (0 ≤ y3 ∧ y3 < ((a0.len : Nat) : Int)) ((rdT (.agg [.int .i64, .int .i64]) h13 (V.add a0.a (Int.toNat y3 * 2))).bind fun (x15_0, x15_1) =>
(guardO (0 ≤ y3 ∧ y3 < ((a0.len : Nat) : Int)) ((H.wrs h13 (V.add a0.a (Int.toNat y3 * 2)) [.int .i64 x14_0, .int .i64 x14_1]).bind fun h16 =>
(guardO (0 ≤ (IntKind.wrap .i64 (y3 - 1)) ∧ (IntKind.wrap .i64 (y3 - 1)) < ((a0.len : Nat) : Int)) ((H.wrs h16 (V.add a0.a (Int.toNat (IntKind.wrap .i64 (y3 - 1)) * 2)) [.int .i64 x15_0, .int .i64 x15_1]).bind fun h17 =>
(some (.more ((IntKind.wrap .i64 (y3 - 1)), h17)))))))))))) else (some (.done (.ex0 (), h12)))))
noncomputable def slices_insertionSortCmpFunc_2_int.loop2 (T : Table) (a0 : SV) (a1 : Int) (a2 : Int) (a3 : V) : (Int) × H → Option (Stp ((Int) × H) (Flow (Unit) (Unit) × H)) := fun (y1, h2) =>
(bif (decide (y1 < a2)) then ((iter FUEL (slices_insertionSortCmpFunc_2_int.loop1 T a0 a1 a3) (y1, h2)).bind fun (fl19, h18) => match fl19 with
| .next _ => none
| .ret rr20 => (some (.done (.ret rr20, h18)))
| .ex0 _ =>
(some (.more ((IntKind.wrap .i64 (y1 + 1)), h18)))
| .ex1 _ => none) else (some (.done (.ex0 (), h2))))
noncomputable def slices_insertionSortCmpFunc_2_int (T : Table) (a0 : SV) (a1 : Int) (a2 : Int) (a3 : V) (h : H) : Option ((Unit) × H) :=
((iter FUEL (slices_insertionSortCmpFunc_2_int.loop2 T a0 a1 a2 a3) ((IntKind.wrap .i64 (a1 + 1)), h)).bind fun (fl22, h21) => match fl22 with
| .next _ => none
| .ret rr23 => (some (rr23, h21))
| .ex0 _ =>
(some ((), h21))
| .ex1 _ => none)
def slices_insertionSortCmpFunc_2_int.A : Ann := { lits := [], conds := [], loops := [(4, [9], [.leaf (.int .i64)], [], [], some 2, none), (1, [8], [.leaf (.int .i64)], [], [], some 0, none)], regs := [(4, [34], [.leaf .bool])] }
theorem slices_insertionSortCmpFunc_2_int.eq (T : Table) : ∀ (x : TT [.leaf .slice, .leaf (.int .i64), .leaf (.int .i64), .leaf .dyn]) (h : H), evalFn Try.prog (slices_insertionSortCmpFunc_2_int.tb T) slices_insertionSortCmpFunc_2_int.A Try.f85 (.many []) (TT.un [.leaf .slice, .leaf (.int .i64), .leaf (.int .i64), .leaf .dyn] x) h = slices_insertionSortCmpFunc_2_int T x.1 x.2.1 x.2.2.1 x.2.2.2 h := by
  intro x h
  kernel_rfl
noncomputable def slices_insertionSortCmpFunc_2_int.e (T : Table) : Entry := mkX [.leaf .slice, .leaf (.int .i64), .leaf (.int .i64), .leaf .dyn] (.many []) fun x h => slices_insertionSortCmpFunc_2_int T x.1 x.2.1 x.2.2.1 x.2.2.2 h
theorem slices_insertionSortCmpFunc_2_int.ok (T : Table) (hT : TabOK Try.prog T) : EntryOK Try.prog 85 (slices_insertionSortCmpFunc_2_int.e T) := mkX_ok (slices_insertionSortCmpFunc_2_int.tbok T hT) Try.mixed Try.func85 (by kernel_rfl) (slices_insertionSortCmpFunc_2_int.eq T)

/-! ### math/bits.Len32: function 93 -/
noncomputable def math_bits_Len32.tb : Table := tab [] [] Table.nil
theorem math_bits_Len32.tbok : TabOK Try.prog (math_bits_Len32.tb) := TabOK.tab (TabOK.nil Try.prog) (all_nil _) (all_nil _)
noncomputable def math_bits_Len32 (a0 : Int) (h : H) : Option ((Int) × H) :=
((bif (decide ((65536 : Int) ≤ a0)) then (some (.next ((Int.fdiv a0 (2 ^ (min (Int.toNat 16) (IntKind.bits .u32)))), 16), h)) else (some (.next (a0, 0), h)) : Option (Flow (Int × Int) (Int) × H)).bind fun (fl2, h1) => match fl2 with
| .next (y3, y4) =>
((bif (decide ((256 : Int) ≤ y3)) then (some (.next ((Int.fdiv y3 (2 ^ (min (Int.toNat 8) (IntKind.bits .u32)))), (IntKind.wrap .i64 (y4 + 8))), h1)) else (some (.next (y3, y4), h1)) : Option (Flow (Int × Int) (Int) × H)).bind fun (fl6, h5) => match fl6 with
| .next (y7, y8) =>
(guardO (0 ≤ (IntKind.wrap .u8 (y7)) ∧ (IntKind.wrap .u8 (y7)) < ((ByteArray.size (⟨#[0, 1, 2, 2, 3, 3, 3, 3, 4, 4, 4, 4, 4, 4, 4, 4, 5, 5, 5, 5, 5, 5, 5, 5, 5, 5, 5, 5, 5, 5, 5, 5, 6, 6, 6, 6, 6, 6, 6, 6, 6, 6, 6, 6, 6, 6, 6, 6, 6, 6, 6, 6, 6, 6, 6, 6, 6, 6, 6, 6, 6, 6, 6, 6, 7, 7, 7, 7, 7, 7, 7, 7, 7, 7, 7, 7, 7, 7, 7, 7, 7, 7, 7, 7, 7, 7, 7, 7, 7, 7, 7, 7, 7, 7, 7, 7, 7, 7, 7, 7, 7, 7, 7, 7, 7, 7, 7, 7, 7, 7, 7, 7, 7, 7, 7, 7, 7, 7, 7, 7, 7, 7, 7, 7, 7, 7, 7, 7, 8, 8, 8, 8, 8, 8, 8, 8, 8, 8, 8, 8, 8, 8, 8, 8, 8, 8, 8, 8, 8, 8, 8, 8, 8, 8, 8, 8, 8, 8, 8, 8, 8, 8, 8, 8, 8, 8, 8, 8, 8, 8, 8, 8, 8, 8, 8, 8, 8, 8, 8, 8, 8, 8, 8, 8, 8, 8, 8, 8, 8, 8, 8, 8, 8, 8, 8, 8, 8, 8, 8, 8, 8, 8, 8, 8, 8, 8, 8, 8, 8, 8, 8, 8, 8, 8, 8, 8, 8, 8, 8, 8, 8, 8, 8, 8, 8, 8, 8, 8, 8, 8, 8, 8, 8, 8, 8, 8, 8, 8, 8, 8, 8, 8, 8, 8, 8, 8, 8, 8, 8, 8, 8, 8, 8, 8, 8, 8]⟩ : ByteArray) : Nat) : Int)) (some ((IntKind.wrap .i64 (y8 + (IntKind.wrap .i64 ((((((ByteArray.data (⟨#[0, 1, 2, 2, 3, 3, 3, 3, 4, 4, 4, 4, 4, 4, 4, 4, 5, 5, 5, 5, 5, 5, 5, 5, 5, 5, 5, 5, 5, 5, 5, 5, 6, 6, 6, 6, 6, 6, 6, 6, 6, 6, 6, 6, 6, 6, 6, 6, 6, 6, 6, 6, 6, 6, 6, 6, 6, 6, 6, 6, 6, 6, 6, 6, 7, 7, 7, 7, 7, 7, 7, 7, 7, 7, 7, 7, 7, 7, 7, 7, 7, 7, 7, 7, 7, 7, 7, 7, 7, 7, 7, 7, 7, 7, 7, 7, 7, 7, 7, 7, 7, 7, 7, 7, 7, 7, 7, 7, 7, 7, 7, 7, 7, 7, 7, 7, 7, 7, 7, 7, 7, 7, 7, 7, 7, 7, 7, 7, 8, 8, 8, 8, 8, 8, 8, 8, 8, 8, 8, 8, 8, 8, 8, 8, 8, 8, 8, 8, 8, 8, 8, 8, 8, 8, 8, 8, 8, 8, 8, 8, 8, 8, 8, 8, 8, 8, 8, 8, 8, 8, 8, 8, 8, 8, 8, 8, 8, 8, 8, 8, 8, 8, 8, 8, 8, 8, 8, 8, 8, 8, 8, 8, 8, 8, 8, 8, 8, 8, 8, 8, 8, 8, 8, 8, 8, 8, 8, 8, 8, 8, 8, 8, 8, 8, 8, 8, 8, 8, 8, 8, 8, 8, 8, 8, 8, 8, 8, 8, 8, 8, 8, 8, 8, 8, 8, 8, 8, 8, 8, 8, 8, 8, 8, 8, 8, 8, 8, 8, 8, 8, 8, 8, 8, 8, 8, 8]⟩ : ByteArray))[Int.toNat (IntKind.wrap .u8 (y7))]?).map UInt8.toNat).getD 0 : Nat) : Int))))), h5)))
| .ret rr9 => (some (rr9, h5))
| .ex0 _ => none
| .ex1 _ => none)
| .ret rr10 => (some (rr10, h1))
| .ex0 _ => none
| .ex1 _ => none)
def math_bits_Len32.A : Ann := { lits := [], conds := [(4, [0, 2], [.leaf (.int .u32), .leaf (.int .i64)], none, none), (8, [0, 2], [.leaf (.int .u32), .leaf (.int .i64)], none, none)], loops := [], regs := [] }
theorem math_bits_Len32.eq : ∀ (x : TT [.leaf (.int .u32)]) (h : H), evalFn Try.prog (math_bits_Len32.tb) math_bits_Len32.A Try.f93 (.one (.leaf (.int .i64))) (TT.un [.leaf (.int .u32)] x) h = math_bits_Len32 x h := by
  intro x h
  kernel_rfl
noncomputable def math_bits_Len32.e : Entry := mkX [.leaf (.int .u32)] (.one (.leaf (.int .i64))) fun x h => math_bits_Len32 x h
theorem math_bits_Len32.ok : EntryOK Try.prog 93 (math_bits_Len32.e) := mkX_ok (math_bits_Len32.tbok) Try.mixed Try.func93 (by kernel_rfl) (math_bits_Len32.eq)
noncomputable def math_bits_Len32P (a0 : Int) : Option (Int) := (math_bits_Len32 a0 H.empty).bind fun p => rdRes false p.2 (.one (.leaf (.int .i64))) (Res.un (.one (.leaf (.int .i64))) p.1)
theorem math_bits_Len32P.eq : ∀ x : TT [.leaf (.int .u32)], ((evalFn Try.prog (math_bits_Len32.tb) math_bits_Len32.A Try.f93 (.one (.leaf (.int .i64))) (TT.lo false [.leaf (.int .u32)] x) H.empty).bind fun p => rdRes false p.2 (.one (.leaf (.int .i64))) (Res.un (.one (.leaf (.int .i64))) p.1)) = math_bits_Len32P x := by
  intro x
  rw [show TT.lo false [.leaf (.int .u32)] x = TT.un [.leaf (.int .u32)] (x) from rfl, math_bits_Len32.eq]
  rfl
noncomputable def math_bits_Len32P.e : Entry := mkP [.leaf (.int .u32)] (.one (.leaf (.int .i64))) fun x => math_bits_Len32P x
theorem math_bits_Len32P.ok : EntryOK Try.prog 93 (math_bits_Len32P.e) := mkP_ok (math_bits_Len32.tbok) Try.mixed Try.func93 (by kernel_rfl) math_bits_Len32P.eq

/-! ### math/bits.Len64: function 94 -/
noncomputable def math_bits_Len64.tb : Table := tab [] [] Table.nil
theorem math_bits_Len64.tbok : TabOK Try.prog (math_bits_Len64.tb) := TabOK.tab (TabOK.nil Try.prog) (all_nil _) (all_nil _)
noncomputable def math_bits_Len64 (a0 : Int) (h : H) : Option ((Int) × H) :=
((bif (decide ((4294967296 : Int) ≤ a0)) then (some (.next ((Int.fdiv a0 (2 ^ (min (Int.toNat 32) (IntKind.bits .u64)))), 32), h)) else (some (.next (a0, 0), h)) : Option (Flow (Int × Int) (Int) × H)).bind fun (fl2, h1) => match fl2 with
| .next (y3, y4) =>
((bif (decide ((65536 : Int) ≤ y3)) then (some (.next ((Int.fdiv y3 (2 ^ (min (Int.toNat 16) (IntKind.bits .u64)))), (IntKind.wrap .i64 (y4 + 16))), h1)) else (some (.next (y3, y4), h1)) : Option (Flow (Int × Int) (Int) × H)).bind fun (fl6, h5) => match fl6 with
| .next (y7, y8) =>
((bif (decide ((256 : Int) ≤ y7)) then (some (.next ((Int.fdiv y7 (2 ^ (min (Int.toNat 8) (IntKind.bits .u64)))), (IntKind.wrap .i64 (y8 + 8))), h5)) else (some (.next (y7, y8), h5)) : Option (Flow (Int × Int) (Int) × H)).bind fun (fl10, h9) => match fl10 with
| .next (y11, y12) =>
(guardO (0 ≤ (IntKind.wrap .u8 (y11)) ∧ (IntKind.wrap .u8 (y11)) < ((ByteArray.size (⟨#[0, 1, 2, 2, 3, 3, 3, 3, 4, 4, 4, 4, 4, 4, 4, 4, 5, 5, 5, 5, 5, 5, 5, 5, 5, 5, 5, 5, 5, 5, 5, 5, 6, 6, 6, 6, 6, 6, 6, 6, 6, 6, 6, 6, 6, 6, 6, 6, 6, 6, 6, 6, 6, 6, 6, 6, 6, 6, 6, 6, 6, 6, 6, 6, 7, 7, 7, 7, 7, 7, 7, 7, 7, 7, 7, 7, 7, 7, 7, 7, 7, 7, 7, 7, 7, 7, 7, 7, 7, 7, 7, 7, 7, 7, 7, 7, 7, 7, 7, 7, 7, 7, 7, 7, 7, 7, 7, 7, 7, 7, 7, 7, 7, 7, 7, 7, 7, 7, 7, 7, 7, 7, 7, 7, 7, 7, 7, 7, 8, 8, 8, 8, 8, 8, 8, 8, 8, 8, 8, 8, 8, 8, 8, 8, 8, 8, 8, 8, 8, 8, 8, 8, 8, 8, 8, 8, 8, 8, 8, 8, 8, 8, 8, 8, 8, 8, 8, 8, 8, 8, 8, 8, 8, 8, 8, 8, 8, 8, 8, 8, 8, 8, 8, 8, 8, 8, 8, 8, 8, 8, 8, 8, 8, 8, 8, 8, 8, 8, 8, 8, 8, 8, 8, 8, 8, 8, 8, 8, 8, 8, 8, 8, 8, 8, 8, 8, 8, 8, 8, 8, 8, 8, 8, 8, 8, 8, 8, 8, 8, 8, 8, 8, 8, 8, 8, 8, 8, 8, 8, 8, 8, 8, 8, 8, 8, 8, 8, 8, 8, 8, 8, 8, 8, 8, 8, 8]⟩ : ByteArray) : Nat) : Int)) (some ((IntKind.wrap .i64 (y12 + (IntKind.wrap .i64 ((((((ByteArray.data (⟨#[0, 1, 2, 2, 3, 3, 3, 3, 4, 4, 4, 4, 4, 4, 4, 4, 5, 5, 5, 5, 5, 5, 5, 5, 5, 5, 5, 5, 5, 5, 5, 5, 6, 6, 6, 6, 6, 6, 6, 6, 6, 6, 6, 6, 6, 6, 6, 6, 6, 6, 6, 6, 6, 6, 6, 6, 6, 6, 6, 6, 6, 6, 6, 6, 7, 7, 7, 7, 7, 7, 7, 7, 7, 7, 7, 7, 7, 7, 7, 7, 7, 7, 7, 7, 7, 7, 7, 7, 7, 7, 7, 7, 7, 7, 7, 7, 7, 7, 7, 7, 7, 7, 7, 7, 7, 7, 7, 7, 7, 7, 7, 7, 7, 7, 7, 7, 7, 7, 7, 7, 7, 7, 7, 7, 7, 7, 7, 7, 8, 8, 8, 8, 8, 8, 8, 8, 8, 8, 8, 8, 8, 8, 8, 8, 8, 8, 8, 8, 8, 8, 8, 8, 8, 8, 8, 8, 8, 8, 8, 8, 8, 8, 8, 8, 8, 8, 8, 8, 8, 8, 8, 8, 8, 8, 8, 8, 8, 8, 8, 8, 8, 8, 8, 8, 8, 8, 8, 8, 8, 8, 8, 8, 8, 8, 8, 8, 8, 8, 8, 8, 8, 8, 8, 8, 8, 8, 8, 8, 8, 8, 8, 8, 8, 8, 8, 8, 8, 8, 8, 8, 8, 8, 8, 8, 8, 8, 8, 8, 8, 8, 8, 8, 8, 8, 8, 8, 8, 8, 8, 8, 8, 8, 8, 8, 8, 8, 8, 8, 8, 8, 8, 8, 8, 8, 8, 8]⟩ : ByteArray))[Int.toNat (IntKind.wrap .u8 (y11))]?).map UInt8.toNat).getD 0 : Nat) : Int))))), h9)))
| .ret rr13 => (some (rr13, h9))
| .ex0 _ => none
| .ex1 _ => none)
| .ret rr14 => (some (rr14, h5))
| .ex0 _ => none
| .ex1 _ => none)
| .ret rr15 => (some (rr15, h1))
| .ex0 _ => none
| .ex1 _ => none)
def math_bits_Len64.A : Ann := { lits := [], conds := [(4, [0, 2], [.leaf (.int .u64), .leaf (.int .i64)], none, none), (8, [0, 2], [.leaf (.int .u64), .leaf (.int .i64)], none, none), (14, [0, 2], [.leaf (.int .u64), .leaf (.int .i64)], none, none)], loops := [], regs := [] }
theorem math_bits_Len64.eq : ∀ (x : TT [.leaf (.int .u64)]) (h : H), evalFn Try.prog (math_bits_Len64.tb) math_bits_Len64.A Try.f94 (.one (.leaf (.int .i64))) (TT.un [.leaf (.int .u64)] x) h = math_bits_Len64 x h := by
  intro x h
  kernel_rfl
noncomputable def math_bits_Len64.e : Entry := mkX [.leaf (.int .u64)] (.one (.leaf (.int .i64))) fun x h => math_bits_Len64 x h
theorem math_bits_Len64.ok : EntryOK Try.prog 94 (math_bits_Len64.e) := mkX_ok (math_bits_Len64.tbok) Try.mixed Try.func94 (by kernel_rfl) (math_bits_Len64.eq)
noncomputable def math_bits_Len64P (a0 : Int) : Option (Int) := (math_bits_Len64 a0 H.empty).bind fun p => rdRes false p.2 (.one (.leaf (.int .i64))) (Res.un (.one (.leaf (.int .i64))) p.1)
theorem math_bits_Len64P.eq : ∀ x : TT [.leaf (.int .u64)], ((evalFn Try.prog (math_bits_Len64.tb) math_bits_Len64.A Try.f94 (.one (.leaf (.int .i64))) (TT.lo false [.leaf (.int .u64)] x) H.empty).bind fun p => rdRes false p.2 (.one (.leaf (.int .i64))) (Res.un (.one (.leaf (.int .i64))) p.1)) = math_bits_Len64P x := by
  intro x
  rw [show TT.lo false [.leaf (.int .u64)] x = TT.un [.leaf (.int .u64)] (x) from rfl, math_bits_Len64.eq]
  rfl
noncomputable def math_bits_Len64P.e : Entry := mkP [.leaf (.int .u64)] (.one (.leaf (.int .i64))) fun x => math_bits_Len64P x
theorem math_bits_Len64P.ok : EntryOK Try.prog 94 (math_bits_Len64P.e) := mkP_ok (math_bits_Len64.tbok) Try.mixed Try.func94 (by kernel_rfl) math_bits_Len64P.eq

/-! ### math/bits.Len: function 74 -/
noncomputable def math_bits_Len.tb : Table := tab [(94, math_bits_Len64P.e)] [] Table.nil
theorem math_bits_Len.tbok : TabOK Try.prog (math_bits_Len.tb) := TabOK.tab (TabOK.nil Try.prog) (all_cons math_bits_Len64P.ok (all_nil _)) (all_nil _)
noncomputable def math_bits_Len (a0 : Int) (h : H) : Option ((Int) × H) :=
((math_bits_Len64P a0).bind fun r1 =>
(some (r1, h)))
def math_bits_Len.A : Ann := { lits := [], conds := [], loops := [], regs := [] }
theorem math_bits_Len.eq : ∀ (x : TT [.leaf (.int .u64)]) (h : H), evalFn Try.prog (math_bits_Len.tb) math_bits_Len.A Try.f74 (.one (.leaf (.int .i64))) (TT.un [.leaf (.int .u64)] x) h = math_bits_Len x h := by
  intro x h
  kernel_rfl
noncomputable def math_bits_Len.e : Entry := mkX [.leaf (.int .u64)] (.one (.leaf (.int .i64))) fun x h => math_bits_Len x h
theorem math_bits_Len.ok : EntryOK Try.prog 74 (math_bits_Len.e) := mkX_ok (math_bits_Len.tbok) Try.mixed Try.func74 (by kernel_rfl) (math_bits_Len.eq)
noncomputable def math_bits_LenP (a0 : Int) : Option (Int) := (math_bits_Len a0 H.empty).bind fun p => rdRes false p.2 (.one (.leaf (.int .i64))) (Res.un (.one (.leaf (.int .i64))) p.1)
theorem math_bits_LenP.eq : ∀ x : TT [.leaf (.int .u64)], ((evalFn Try.prog (math_bits_Len.tb) math_bits_Len.A Try.f74 (.one (.leaf (.int .i64))) (TT.lo false [.leaf (.int .u64)] x) H.empty).bind fun p => rdRes false p.2 (.one (.leaf (.int .i64))) (Res.un (.one (.leaf (.int .i64))) p.1)) = math_bits_LenP x := by
  intro x
  rw [show TT.lo false [.leaf (.int .u64)] x = TT.un [.leaf (.int .u64)] (x) from rfl, math_bits_Len.eq]
  rfl
noncomputable def math_bits_LenP.e : Entry := mkP [.leaf (.int .u64)] (.one (.leaf (.int .i64))) fun x => math_bits_LenP x
theorem math_bits_LenP.ok : EntryOK Try.prog 74 (math_bits_LenP.e) := mkP_ok (math_bits_Len.tbok) Try.mixed Try.func74 (by kernel_rfl) math_bits_LenP.eq

/-! ### slices.nextPowerOfTwo: function 100 -/
noncomputable def slices_nextPowerOfTwo.tb : Table := tab [(74, math_bits_LenP.e)] [] Table.nil
theorem slices_nextPowerOfTwo.tbok : TabOK Try.prog (slices_nextPowerOfTwo.tb) := TabOK.tab (TabOK.nil Try.prog) (all_cons math_bits_LenP.ok (all_nil _)) (all_nil _)
noncomputable def slices_nextPowerOfTwo (a0 : Int) (h : H) : Option ((Int) × H) :=
((math_bits_LenP (IntKind.wrap .u64 (a0))).bind fun r1 =>
(guardO (0 ≤ r1) (some ((IntKind.wrap .u64 (1 * 2 ^ (min (Int.toNat r1) (IntKind.bits .u64)))), h))))
def slices_nextPowerOfTwo.A : Ann := { lits := [], conds := [], loops := [], regs := [] }
theorem slices_nextPowerOfTwo.eq : ∀ (x : TT [.leaf (.int .i64)]) (h : H), evalFn Try.prog (slices_nextPowerOfTwo.tb) slices_nextPowerOfTwo.A Try.f100 (.one (.leaf (.int .u64))) (TT.un [.leaf (.int .i64)] x) h = slices_nextPowerOfTwo x h := by
  intro x h
  kernel_rfl
noncomputable def slices_nextPowerOfTwo.e : Entry := mkX [.leaf (.int .i64)] (.one (.leaf (.int .u64))) fun x h => slices_nextPowerOfTwo x h
theorem slices_nextPowerOfTwo.ok : EntryOK Try.prog 100 (slices_nextPowerOfTwo.e) := mkX_ok (slices_nextPowerOfTwo.tbok) Try.mixed Try.func100 (by kernel_rfl) (slices_nextPowerOfTwo.eq)
noncomputable def slices_nextPowerOfTwoP (a0 : Int) : Option (Int) := (slices_nextPowerOfTwo a0 H.empty).bind fun p => rdRes false p.2 (.one (.leaf (.int .u64))) (Res.un (.one (.leaf (.int .u64))) p.1)
theorem slices_nextPowerOfTwoP.eq : ∀ x : TT [.leaf (.int .i64)], ((evalFn Try.prog (slices_nextPowerOfTwo.tb) slices_nextPowerOfTwo.A Try.f100 (.one (.leaf (.int .u64))) (TT.lo false [.leaf (.int .i64)] x) H.empty).bind fun p => rdRes false p.2 (.one (.leaf (.int .u64))) (Res.un (.one (.leaf (.int .u64))) p.1)) = slices_nextPowerOfTwoP x := by
  intro x
  rw [show TT.lo false [.leaf (.int .i64)] x = TT.un [.leaf (.int .i64)] (x) from rfl, slices_nextPowerOfTwo.eq]
  rfl
noncomputable def slices_nextPowerOfTwoP.e : Entry := mkP [.leaf (.int .i64)] (.one (.leaf (.int .u64))) fun x => slices_nextPowerOfTwoP x
theorem slices_nextPowerOfTwoP.ok : EntryOK Try.prog 100 (slices_nextPowerOfTwoP.e) := mkP_ok (slices_nextPowerOfTwo.tbok) Try.mixed Try.func100 (by kernel_rfl) slices_nextPowerOfTwoP.eq

/-! ### (*slices.xorshift).Next: function 101 -/
noncomputable def slices_xorshift_Next.tb : Table := tab [] [] Table.nil
theorem slices_xorshift_Next.tbok : TabOK Try.prog (slices_xorshift_Next.tb) := TabOK.tab (TabOK.nil Try.prog) (all_nil _) (all_nil _)
noncomputable def slices_xorshift_Next (a0 : V) (h : H) : Option ((Int) × H) :=
(let h1 : H := H.reserve h 0
(guardO (V.nnf (a0 : V) = true) ((rdT (.leaf (.int .u64)) h1 a0).bind fun x2 =>
(guardO (V.nnf (a0 : V) = true) ((rdT (.leaf (.int .u64)) h1 a0).bind fun x3 =>
(guardO (V.nnf (a0 : V) = true) ((H.wrs h1 a0 [.int .u64 (bitsI .xor .u64 x2 (IntKind.wrap .u64 (x3 * 2 ^ (min (Int.toNat 13) (IntKind.bits .u64)))))]).bind fun h4 =>
(let h5 : H := H.reserve h4 0
(guardO (V.nnf (a0 : V) = true) ((rdT (.leaf (.int .u64)) h5 a0).bind fun x6 =>
(guardO (V.nnf (a0 : V) = true) ((rdT (.leaf (.int .u64)) h5 a0).bind fun x7 =>
(guardO (V.nnf (a0 : V) = true) ((H.wrs h5 a0 [.int .u64 (bitsI .xor .u64 x6 (Int.fdiv x7 (2 ^ (min (Int.toNat 7) (IntKind.bits .u64)))))]).bind fun h8 =>
(let h9 : H := H.reserve h8 0
(guardO (V.nnf (a0 : V) = true) ((rdT (.leaf (.int .u64)) h9 a0).bind fun x10 =>
(guardO (V.nnf (a0 : V) = true) ((rdT (.leaf (.int .u64)) h9 a0).bind fun x11 =>
(guardO (V.nnf (a0 : V) = true) ((H.wrs h9 a0 [.int .u64 (bitsI .xor .u64 x10 (IntKind.wrap .u64 (x11 * 2 ^ (min (Int.toNat 17) (IntKind.bits .u64)))))]).bind fun h12 =>
(guardO (V.nnf (a0 : V) = true) ((rdT (.leaf (.int .u64)) h12 a0).bind fun x13 =>
(some (x13, h12)))))))))))))))))))))))))
def slices_xorshift_Next.A : Ann := { lits := [], conds := [], loops := [], regs := [] }
theorem slices_xorshift_Next.eq : ∀ (x : TT [.leaf .ptr]) (h : H), evalFn Try.prog (slices_xorshift_Next.tb) slices_xorshift_Next.A Try.f101 (.one (.leaf (.int .u64))) (TT.un [.leaf .ptr] x) h = slices_xorshift_Next x h := by
  intro x h
  kernel_rfl
noncomputable def slices_xorshift_Next.e : Entry := mkX [.leaf .ptr] (.one (.leaf (.int .u64))) fun x h => slices_xorshift_Next x h
theorem slices_xorshift_Next.ok : EntryOK Try.prog 101 (slices_xorshift_Next.e) := mkX_ok (slices_xorshift_Next.tbok) Try.mixed Try.func101 (by kernel_rfl) (slices_xorshift_Next.eq)

/-! ### slices.order2CmpFunc[[2]int]: function 106 -/
noncomputable def slices_order2CmpFunc_2_int.tb (T : Table) : Table := tab [] [] T
theorem slices_order2CmpFunc_2_int.tbok (T : Table) (hT : TabOK Try.prog T) : TabOK Try.prog (slices_order2CmpFunc_2_int.tb T) := TabOK.tab (hT) (all_nil _) (all_nil _)
noncomputable def slices_order2CmpFunc_2_int (T : Table) (a0 : SV) (a1 : Int) (a2 : Int) (a3 : V) (a4 : V) (h : H) : Option ((Int × Int) × H) :=
(let h1 : H := H.reserve h 0
(guardO (0 ≤ a2 ∧ a2 < ((a0.len : Nat) : Int)) ((rdT (.agg [.int .i64, .int .i64]) h1 (V.add a0.a (Int.toNat a2 * 2))).bind fun (x2_0, x2_1) =>
(guardO (0 ≤ a1 ∧ a1 < ((a0.len : Nat) : Int)) ((rdT (.agg [.int .i64, .int .i64]) h1 (V.add a0.a (Int.toNat a1 * 2))).bind fun (x3_0, x3_1) =>
(callV T.dy a4 [.agg [.int .i64 x2_0, .int .i64 x2_1], .agg [.int .i64 x3_0, .int .i64 x3_1]] h1 fun v4 h5 =>
(Res.pack (.one (.leaf (.int .i64))) v4).bind fun r6 =>
(bif (decide (r6 < 0)) then (guardO (V.nnf (a3 : V) = true) ((rdT (.leaf (.int .i64)) h5 a3).bind fun x7 =>
(guardO (V.nnf (a3 : V) = true) ((H.wrs h5 a3 [.int .i64 (IntKind.wrap .i64 (x7 + 1))]).bind fun h8 =>
(some ((a2, a1), h8)))))) else (some ((a1, a2), h5)))))))))
def slices_order2CmpFunc_2_int.A : Ann := { lits := [], conds := [], loops := [], regs := [] }
theorem slices_order2CmpFunc_2_int.eq (T : Table) : ∀ (x : TT [.leaf .slice, .leaf (.int .i64), .leaf (.int .i64), .leaf .ptr, .leaf .dyn]) (h : H), evalFn Try.prog (slices_order2CmpFunc_2_int.tb T) slices_order2CmpFunc_2_int.A Try.f106 (.many [.leaf (.int .i64), .leaf (.int .i64)]) (TT.un [.leaf .slice, .leaf (.int .i64), .leaf (.int .i64), .leaf .ptr, .leaf .dyn] x) h = slices_order2CmpFunc_2_int T x.1 x.2.1 x.2.2.1 x.2.2.2.1 x.2.2.2.2 h := by
  intro x h
  kernel_rfl
noncomputable def slices_order2CmpFunc_2_int.e (T : Table) : Entry := mkX [.leaf .slice, .leaf (.int .i64), .leaf (.int .i64), .leaf .ptr, .leaf .dyn] (.many [.leaf (.int .i64), .leaf (.int .i64)]) fun x h => slices_order2CmpFunc_2_int T x.1 x.2.1 x.2.2.1 x.2.2.2.1 x.2.2.2.2 h
theorem slices_order2CmpFunc_2_int.ok (T : Table) (hT : TabOK Try.prog T) : EntryOK Try.prog 106 (slices_order2CmpFunc_2_int.e T) := mkX_ok (slices_order2CmpFunc_2_int.tbok T hT) Try.mixed Try.func106 (by kernel_rfl) (slices_order2CmpFunc_2_int.eq T)

/-! ### slices.medianCmpFunc[[2]int]: function 103 -/
noncomputable def slices_medianCmpFunc_2_int.tb (T : Table) : Table := tab [] [] T
theorem slices_medianCmpFunc_2_int.tbok (T : Table) (hT : TabOK Try.prog T) : TabOK Try.prog (slices_medianCmpFunc_2_int.tb T) := TabOK.tab (hT) (all_nil _) (all_nil _)
noncomputable def slices_medianCmpFunc_2_int (T : Table) (a0 : SV) (a1 : Int) (a2 : Int) (a3 : Int) (a4 : V) (a5 : V) (h : H) : Option ((Int) × H) :=
((slices_order2CmpFunc_2_int (slices_medianCmpFunc_2_int.tb T) a0 a1 a2 a4 a5 h).bind fun ((r1, r2), h3) =>
((slices_order2CmpFunc_2_int (slices_medianCmpFunc_2_int.tb T) a0 r2 a3 a4 a5 h3).bind fun ((r4, r5), h6) =>
((slices_order2CmpFunc_2_int (slices_medianCmpFunc_2_int.tb T) a0 r1 r4 a4 a5 h6).bind fun ((r7, r8), h9) =>
(some (r8, h9)))))
def slices_medianCmpFunc_2_int.A : Ann := { lits := [], conds := [], loops := [], regs := [] }
noncomputable def slices_medianCmpFunc_2_int.tc (T : Table) : Table := tab [(106, slices_order2CmpFunc_2_int.e (slices_medianCmpFunc_2_int.tb T))] [] (slices_medianCmpFunc_2_int.tb T)
theorem slices_medianCmpFunc_2_int.tcok (T : Table) (hT : TabOK Try.prog T) : TabOK Try.prog (slices_medianCmpFunc_2_int.tc T) := TabOK.tab (slices_medianCmpFunc_2_int.tbok T hT) (all_cons (slices_order2CmpFunc_2_int.ok _ (slices_medianCmpFunc_2_int.tbok T hT)) (all_nil _)) (all_nil _)
theorem slices_medianCmpFunc_2_int.eq (T : Table) : ∀ (x : TT [.leaf .slice, .leaf (.int .i64), .leaf (.int .i64), .leaf (.int .i64), .leaf .ptr, .leaf .dyn]) (h : H), evalFn Try.prog (slices_medianCmpFunc_2_int.tc T) slices_medianCmpFunc_2_int.A Try.f103 (.one (.leaf (.int .i64))) (TT.un [.leaf .slice, .leaf (.int .i64), .leaf (.int .i64), .leaf (.int .i64), .leaf .ptr, .leaf .dyn] x) h = slices_medianCmpFunc_2_int T x.1 x.2.1 x.2.2.1 x.2.2.2.1 x.2.2.2.2.1 x.2.2.2.2.2 h := by
  intro x h
  kernel_rfl
noncomputable def slices_medianCmpFunc_2_int.e (T : Table) : Entry := mkX [.leaf .slice, .leaf (.int .i64), .leaf (.int .i64), .leaf (.int .i64), .leaf .ptr, .leaf .dyn] (.one (.leaf (.int .i64))) fun x h => slices_medianCmpFunc_2_int T x.1 x.2.1 x.2.2.1 x.2.2.2.1 x.2.2.2.2.1 x.2.2.2.2.2 h
theorem slices_medianCmpFunc_2_int.ok (T : Table) (hT : TabOK Try.prog T) : EntryOK Try.prog 103 (slices_medianCmpFunc_2_int.e T) := mkX_ok (slices_medianCmpFunc_2_int.tcok T hT) Try.mixed Try.func103 (by kernel_rfl) (slices_medianCmpFunc_2_int.eq T)

/-! ### slices.medianAdjacentCmpFunc[[2]int]: function 102 -/
noncomputable def slices_medianAdjacentCmpFunc_2_int.tb (T : Table) : Table := tab [] [] T
theorem slices_medianAdjacentCmpFunc_2_int.tbok (T : Table) (hT : TabOK Try.prog T) : TabOK Try.prog (slices_medianAdjacentCmpFunc_2_int.tb T) := TabOK.tab (hT) (all_nil _) (all_nil _)
noncomputable def slices_medianAdjacentCmpFunc_2_int (T : Table) (a0 : SV) (a1 : Int) (a2 : V) (a3 : V) (h : H) : Option ((Int) × H) :=
((slices_medianCmpFunc_2_int (slices_medianAdjacentCmpFunc_2_int.tb T) a0 (IntKind.wrap .i64 (a1 - 1)) a1 (IntKind.wrap .i64 (a1 + 1)) a2 a3 h).bind fun (r1, h2) =>
(some (r1, h2)))
def slices_medianAdjacentCmpFunc_2_int.A : Ann := { lits := [], conds := [], loops := [], regs := [] }
noncomputable def slices_medianAdjacentCmpFunc_2_int.tc (T : Table) : Table := tab [(103, slices_medianCmpFunc_2_int.e (slices_medianAdjacentCmpFunc_2_int.tb T))] [] (slices_medianAdjacentCmpFunc_2_int.tb T)
theorem slices_medianAdjacentCmpFunc_2_int.tcok (T : Table) (hT : TabOK Try.prog T) : TabOK Try.prog (slices_medianAdjacentCmpFunc_2_int.tc T) := TabOK.tab (slices_medianAdjacentCmpFunc_2_int.tbok T hT) (all_cons (slices_medianCmpFunc_2_int.ok _ (slices_medianAdjacentCmpFunc_2_int.tbok T hT)) (all_nil _)) (all_nil _)
theorem slices_medianAdjacentCmpFunc_2_int.eq (T : Table) : ∀ (x : TT [.leaf .slice, .leaf (.int .i64), .leaf .ptr, .leaf .dyn]) (h : H), evalFn Try.prog (slices_medianAdjacentCmpFunc_2_int.tc T) slices_medianAdjacentCmpFunc_2_int.A Try.f102 (.one (.leaf (.int .i64))) (TT.un [.leaf .slice, .leaf (.int .i64), .leaf .ptr, .leaf .dyn] x) h = slices_medianAdjacentCmpFunc_2_int T x.1 x.2.1 x.2.2.1 x.2.2.2 h := by
  intro x h
  kernel_rfl
noncomputable def slices_medianAdjacentCmpFunc_2_int.e (T : Table) : Entry := mkX [.leaf .slice, .leaf (.int .i64), .leaf .ptr, .leaf .dyn] (.one (.leaf (.int .i64))) fun x h => slices_medianAdjacentCmpFunc_2_int T x.1 x.2.1 x.2.2.1 x.2.2.2 h
theorem slices_medianAdjacentCmpFunc_2_int.ok (T : Table) (hT : TabOK Try.prog T) : EntryOK Try.prog 102 (slices_medianAdjacentCmpFunc_2_int.e T) := mkX_ok (slices_medianAdjacentCmpFunc_2_int.tcok T hT) Try.mixed Try.func102 (by kernel_rfl) (slices_medianAdjacentCmpFunc_2_int.eq T)

/-! ### slices.reverseRangeCmpFunc[[2]int]: function 89 -/
noncomputable def slices_reverseRangeCmpFunc_2_int.tb (T : Table) : Table := tab [] [] T
theorem slices_reverseRangeCmpFunc_2_int.tbok (T : Table) (hT : TabOK Try.prog T) : TabOK Try.prog (slices_reverseRangeCmpFunc_2_int.tb T) := TabOK.tab (hT) (all_nil _) (all_nil _)
noncomputable def slices_reverseRangeCmpFunc_2_int.loop1 (T : Table) (a0 : SV) : (Int × Int) × H → Option (Stp ((Int × Int) × H) (Flow (Unit) (Unit) × H)) := fun ((y1, y2), h3) =>
(bif (decide (y1 < y2)) then (let h4 : H := H.reserve h3 0
(guardO (0 ≤ y2 ∧ y2 < ((a0.len : Nat) : Int)) ((rdT (.agg [.int .i64, .int .i64]) h4 (V.add a0.a (Int.toNat y2 * 2))).bind fun (x5_0, x5_1) =>
(guardO (0 ≤ y1 ∧ y1 < ((a0.len : Nat) : Int)) ((rdT (.agg [.int .i64, .int .i64]) h4 (V.add a0.a (Int.toNat y1 * 2))).bind fun (x6_0, x6_1) =>
(guardO (0 ≤ y1 ∧ y1 < ((a0.len : Nat) : Int)) ((H.wrs h4 (V.add a0.a (Int.toNat y1 * 2)) [.int .i64 x5_0, .int .i64 x5_1]).bind fun h7 =>
(guardO (0 ≤ y2 ∧ y2 < ((a0.len : Nat) : Int)) ((H.wrs h7 (V.add a0.a (Int.toNat y2 * 2)) [.int .i64 x6_0, .int .i64 x6_1]).bind fun h8 =>
(some (.more (((IntKind.wrap .i64 (y1 + 1)), (IntKind.wrap .i64 (y2 - 1))), h8)))))))))))) else (some (.done (.ex0 (), h3))))
noncomputable def slices_reverseRangeCmpFunc_2_int (T : Table) (a0 : SV) (a1 : Int) (a2 : Int) (a3 : V) (h : H) : Option ((Unit) × H) :=
((iter FUEL (slices_reverseRangeCmpFunc_2_int.loop1 T a0) ((a1, (IntKind.wrap .i64 (a2 - 1))), h)).bind fun (fl10, h9) => match fl10 with
| .next _ => none
| .ret rr11 => (some (rr11, h9))
| .ex0 _ =>
(some ((), h9))
| .ex1 _ => none)
def slices_reverseRangeCmpFunc_2_int.A : Ann := { lits := [], conds := [], loops := [(2, [8, 9], [.leaf (.int .i64), .leaf (.int .i64)], [], [], some 0, none)], regs := [] }
theorem slices_reverseRangeCmpFunc_2_int.eq (T : Table) : ∀ (x : TT [.leaf .slice, .leaf (.int .i64), .leaf (.int .i64), .leaf .dyn]) (h : H), evalFn Try.prog (slices_reverseRangeCmpFunc_2_int.tb T) slices_reverseRangeCmpFunc_2_int.A Try.f89 (.many []) (TT.un [.leaf .slice, .leaf (.int .i64), .leaf (.int .i64), .leaf .dyn] x) h = slices_reverseRangeCmpFunc_2_int T x.1 x.2.1 x.2.2.1 x.2.2.2 h := by
  intro x h
  kernel_rfl
noncomputable def slices_reverseRangeCmpFunc_2_int.e (T : Table) : Entry := mkX [.leaf .slice, .leaf (.int .i64), .leaf (.int .i64), .leaf .dyn] (.many []) fun x h => slices_reverseRangeCmpFunc_2_int T x.1 x.2.1 x.2.2.1 x.2.2.2 h
theorem slices_reverseRangeCmpFunc_2_int.ok (T : Table) (hT : TabOK Try.prog T) : EntryOK Try.prog 89 (slices_reverseRangeCmpFunc_2_int.e T) := mkX_ok (slices_reverseRangeCmpFunc_2_int.tbok T hT) Try.mixed Try.func89 (by kernel_rfl) (slices_reverseRangeCmpFunc_2_int.eq T)
end Go.Proofs.Ytfkabibbaajfhaa
