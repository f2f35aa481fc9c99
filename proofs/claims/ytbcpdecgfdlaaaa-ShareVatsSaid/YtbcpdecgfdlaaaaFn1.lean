/- The functions of the program as Lean functions, each with the equation by which the evaluator is that function. Written by a program of this session (evdrive.py). Conditions: none. -/
import Derived.Test.YtbcpdecgfdlaaaaProg
import Derived.Test.YtbcpdecgfdlaaaaEvSpec
import Derived.Test.YtbcpdecgfdlaaaaFn0
namespace Go.Proofs.Ytbcpdecgfdlaaaa
open Go Go.Proofs.Ytbcpdecgfdlaaaa.Ev
set_option maxRecDepth 100000
set_option linter.unusedVariables false
/-! ### spile/proportion.product: function 81 -/
noncomputable def proportion_product.tb : Table := tab [(93, math_bits_Mul64P.e)] [] Table.nil
theorem proportion_product.tbok : TabOK Try.prog (proportion_product.tb) := TabOK.tab (TabOK.nil Try.prog) (all_cons math_bits_Mul64P.ok (all_nil _)) (all_nil _)
noncomputable def proportion_product (a0 : Int) (a1 : Int) (h : H) : Option (((Int × Int)) × H) :=
(let h1 : H := H.new h [.int .u64 0, .int .u64 0] 2
((math_bits_Mul64P (IntKind.wrap .u64 (a0)) (IntKind.wrap .u64 (a1))).bind fun (r2, r3) =>
((H.wrs h1 (.hp h.next 2 0) [.int .u64 r2, .int .u64 r3]).bind fun h4 =>
((rdT (.agg [.int .u64, .int .u64]) h4 (.hp h.next 2 0 : V)).bind fun (x5_0, x5_1) =>
(some ((x5_0, x5_1), h4))))))
def proportion_product.A : Ann := { lits := [], conds := [], loops := [], regs := [] }
theorem proportion_product.eq : ∀ (x : TT [.leaf (.int .i64), .leaf (.int .i64)]) (h : H), evalFn Try.prog (proportion_product.tb) proportion_product.A Try.f81 (.one (.agg [.int .u64, .int .u64])) (TT.un [.leaf (.int .i64), .leaf (.int .i64)] x) h = proportion_product x.1 x.2 h := by
  intro x h
  kernel_rfl
noncomputable def proportion_product.e : Entry := mkX [.leaf (.int .i64), .leaf (.int .i64)] (.one (.agg [.int .u64, .int .u64])) fun x h => proportion_product x.1 x.2 h
theorem proportion_product.ok : EntryOK Try.prog 81 (proportion_product.e) := mkX_ok (proportion_product.tbok) Try.mixed Try.func81 (by kernel_rfl) (proportion_product.eq)
noncomputable def proportion_productP (a0 : Int) (a1 : Int) : Option ((Int × Int)) := (proportion_product a0 a1 H.empty).bind fun p => rdRes false p.2 (.one (.agg [.int .u64, .int .u64])) (Res.un (.one (.agg [.int .u64, .int .u64])) p.1)
theorem proportion_productP.eq : ∀ x : TT [.leaf (.int .i64), .leaf (.int .i64)], ((evalFn Try.prog (proportion_product.tb) proportion_product.A Try.f81 (.one (.agg [.int .u64, .int .u64])) (TT.lo false [.leaf (.int .i64), .leaf (.int .i64)] x) H.empty).bind fun p => rdRes false p.2 (.one (.agg [.int .u64, .int .u64])) (Res.un (.one (.agg [.int .u64, .int .u64])) p.1)) = proportion_productP x.1 x.2 := by
  intro x
  rw [show TT.lo false [.leaf (.int .i64), .leaf (.int .i64)] x = TT.un [.leaf (.int .i64), .leaf (.int .i64)] (x.1, x.2) from rfl, proportion_product.eq]
  rfl
noncomputable def proportion_productP.e : Entry := mkP [.leaf (.int .i64), .leaf (.int .i64)] (.one (.agg [.int .u64, .int .u64])) fun x => proportion_productP x.1 x.2
theorem proportion_productP.ok : EntryOK Try.prog 81 (proportion_productP.e) := mkP_ok (proportion_product.tbok) Try.mixed Try.func81 (by kernel_rfl) proportion_productP.eq

/-! ### math/bits.Len64: function 103 -/
noncomputable def math_bits_Len64.tb : Table := tab [] [] Table.nil
theorem math_bits_Len64.tbok : TabOK Try.prog (math_bits_Len64.tb) := TabOK.tab (TabOK.nil Try.prog) (all_nil _) (all_nil _)
noncomputable def math_bits_Len64 (a0 : Int) (h : H) : Option ((Int) × H) :=
((bif (decide ((4294967296 : Int) ≤ a0)) then (some (.next ((Int.fdiv a0 (2 ^ (min (Int.toNat 32) (IntKind.bits .u64)))), 32), h)) else (some (.next (a0, 0), h)) : Option (Flow (Int × Int) (Int) × H)).bind fun (fl2, h1) => match fl2 with
| .next (y3, y4) =>
((bif (decide ((65536 : Int) ≤ y3)) then (some (.next ((Int.fdiv y3 (2 ^ (min (Int.toNat 16) (IntKind.bits .u64)))), (IntKind.wrap .i64 (y4 + 16))), h1)) else (some (.next (y3, y4), h1)) : Option (Flow (Int × Int) (Int) × H)).bind fun (fl6, h5) => match fl6 with
| .next (y7, y8) =>
((bif (decide ((256 : Int) ≤ y7)) then (some (.next ((Int.fdiv y7 (2 ^ (min (Int.toNat 8) (IntKind.bits .u64)))), (IntKind.wrap .i64 (y8 + 8))), h5)) else (some (.next (y7, y8), h5)) : Option (Flow (Int × Int) (Int) × H)).bind fun (fl10, h9) => match fl10 with
| .next (y11, y12) =>
(guardO (0 ≤ (IntKind.wrap .u8 (y11)) ∧ (IntKind.wrap .u8 (y11)) < ((ByteArray.size (⟨#[0, 1, 2, 2, 3, 3, 3, 3, 4, 4, 4, 4, 4, 4, 4, 4, 5, 5, 5, 5, 5, 5, 5, 5, 5, 5, 5, 5, 5, 5, 5, 5, 6, 6, 6, 6, 6, 6, 6, 6, 6, 6, 6, 6, 6, 6, 6, 6, 6, 6, 6, 6, 6, 6, 6, 6, 6, 6, 6, 6, 6, 6, 6, 6, 7, 7, 7, 7, 7, 7, 7, 7, 7, 7, 7, 7, 7, 7, 7, 7, 7, 7, 7, 7, 7, 7, 7, 7, 7, 7, 7, 7, 7, 7, 7, 7, 7, 7, 7, 7, 7, 7, 7, 7, 7, 7, 7, 7, 7, 7, 7, 7, 7, 7, 7, 7, 7, 7, 7, 7, 7, 7, 7, 7, 7, 7, 7, 7, 8, 8, 8, 8, 8, 8, 8, 8, 8, 8, 8, 8, 8, 8, 8, 8, 8, 8, 8, 8, 8, 8, 8, 8, 8, 8, 8, 8, 8, 8, 8, 8, 8, 8, 8, 8, 8, 8, 8, 8, 8, 8, 8, 8, 8, 8, 8, 8, 8, 8, 8, 8, 8, 8, 8, 8, 8, 8, 8, 8, 8, 8, 8, 8, 8, 8, 8, 8, 8, 8, 8, 8, 8, 8, 8, 8, 8, 8, 8, 8, 8, 8, 8, 8, 8, 8, 8, 8, 8, 8, 8, 8, 8, 8, 8, 8, 8, 8, 8, 8, 8, 8, 8, 8, 8, 8, 8, 8, 8, 8, 8, 8, 8, 8, 8, 8, 8, 8, 8, 8, 8, 8, 8, 8, 8, 8, 8, 8]⟩ : ByteArray) : Nat) : Int)) (some ((IntKind.wrap .i64 (y12 + (IntKind.wrap .i64 ((((((ByteArray.data (⟨#[0, 1, 2, 2, 3, 3, 3, 3, 4, 4, 4, 4, 4, 4, 4, 4, 5, 5, 5, 5, 5, 5, 5, 5, 5, 5, 5, 5, 5, 5, 5, 5, 6, 6, 6, 6, 6, 6, 6, 6, 6, 6, 6, 6, 6, 6, 6, 6, 6, 6, 6, 6, 6, 6, 6, 6, 6, 6, 6, 6, 6, 6, 6, 6, 7, 7, 7, 7, 7, 7, 7, 7, 7, 7, 7, 7, 7, 7, 7, 7, 7, 7, 7, 7, 7, 7, 7, 7, 7, 7, 7, 7, 7, 7, 7, 7, 7, 7, 7, 7, 7, 7, 7, 7, 7, 7, 7, 7, 7, 7, 7, 7, 7, 7, 7, 7, 7, 7, 7, 7, 7, 7, 7, 7, 7, 7, 7, 7, 8, 8, 8, 8, 8, 8, 8, 8, 8, 8, 8, 8, 8, 8, 8, 8, 8, 8, 8, 8, 8, 8, 8, 8, 8, 8, 8, 8, 8, 8, 8, 8, 8, 8, 8, 8, 8, 8, 8, 8, 8, 8, 8, 8, 8, 8, 8, 8, 8, 8, 8, 8, 8, 8, 8, 8, 8, 8, 8, 8, 8, 8, 8, 8, 8, 8, 8, 8, 8, 8, 8, 8, 8, 8, 8, 8, 8, 8, 8, 8, 8, 8, 8, 8, 8, 8, 8, 8, 8, 8, 8, 8, 8, 8, 8, 8, 8, 8, 8, 8, 8, 8, 8, 8, 8, 8, 8, 8, 8, 8, 8, 8, 8, 8, 8, 8, 8, 8, 8, 8, 8, 8, 8, 8, 8, 8, 8, 8]⟩ : ByteArray))[Int.toNat (IntKind.wrap .u8 (y11))]?).map UInt8.toNat).getD 0 : Nat) : Int))))), h9)))
| .ret rr13 => (some (rr13, h9))
| .ex0 _ => none
| .ex1 _ => none)
| .ret rr14 => (some (rr14, h5))
| .ex0 _ => none
| .ex1 _ => none)
| .ret rr15 => (some (rr15, h1))
| .ex0 _ => none
| .ex1 _ => none)
def math_bits_Len64.A : Ann := { lits := [], conds := [(4, [0, 2], [.leaf (.int .u64), .leaf (.int .i64)], none, none), (8, [0, 2], [.leaf (.int .u64), .leaf (.int .i64)], none, none), (14, [0, 2], [.leaf (.int .u64), .leaf (.int .i64)], none, none)], loops := [], regs := [] }
theorem math_bits_Len64.eq : ∀ (x : TT [.leaf (.int .u64)]) (h : H), evalFn Try.prog (math_bits_Len64.tb) math_bits_Len64.A Try.f103 (.one (.leaf (.int .i64))) (TT.un [.leaf (.int .u64)] x) h = math_bits_Len64 x h := by
  intro x h
  kernel_rfl
noncomputable def math_bits_Len64.e : Entry := mkX [.leaf (.int .u64)] (.one (.leaf (.int .i64))) fun x h => math_bits_Len64 x h
theorem math_bits_Len64.ok : EntryOK Try.prog 103 (math_bits_Len64.e) := mkX_ok (math_bits_Len64.tbok) Try.mixed Try.func103 (by kernel_rfl) (math_bits_Len64.eq)
noncomputable def math_bits_Len64P (a0 : Int) : Option (Int) := (math_bits_Len64 a0 H.empty).bind fun p => rdRes false p.2 (.one (.leaf (.int .i64))) (Res.un (.one (.leaf (.int .i64))) p.1)
theorem math_bits_Len64P.eq : ∀ x : TT [.leaf (.int .u64)], ((evalFn Try.prog (math_bits_Len64.tb) math_bits_Len64.A Try.f103 (.one (.leaf (.int .i64))) (TT.lo false [.leaf (.int .u64)] x) H.empty).bind fun p => rdRes false p.2 (.one (.leaf (.int .i64))) (Res.un (.one (.leaf (.int .i64))) p.1)) = math_bits_Len64P x := by
  intro x
  rw [show TT.lo false [.leaf (.int .u64)] x = TT.un [.leaf (.int .u64)] (x) from rfl, math_bits_Len64.eq]
  rfl
noncomputable def math_bits_Len64P.e : Entry := mkP [.leaf (.int .u64)] (.one (.leaf (.int .i64))) fun x => math_bits_Len64P x
theorem math_bits_Len64P.ok : EntryOK Try.prog 103 (math_bits_Len64P.e) := mkP_ok (math_bits_Len64.tbok) Try.mixed Try.func103 (by kernel_rfl) math_bits_Len64P.eq

/-! ### math/bits.LeadingZeros64: function 94 -/
noncomputable def math_bits_LeadingZeros64.tb : Table := tab [(103, math_bits_Len64P.e)] [] Table.nil
theorem math_bits_LeadingZeros64.tbok : TabOK Try.prog (math_bits_LeadingZeros64.tb) := TabOK.tab (TabOK.nil Try.prog) (all_cons math_bits_Len64P.ok (all_nil _)) (all_nil _)
noncomputable def math_bits_LeadingZeros64 (a0 : Int) (h : H) : Option ((Int) × H) :=
((math_bits_Len64P a0).bind fun r1 =>
(some ((IntKind.wrap .i64 (64 - r1)), h)))
def math_bits_LeadingZeros64.A : Ann := { lits := [], conds := [], loops := [], regs := [] }
theorem math_bits_LeadingZeros64.eq : ∀ (x : TT [.leaf (.int .u64)]) (h : H), evalFn Try.prog (math_bits_LeadingZeros64.tb) math_bits_LeadingZeros64.A Try.f94 (.one (.leaf (.int .i64))) (TT.un [.leaf (.int .u64)] x) h = math_bits_LeadingZeros64 x h := by
  intro x h
  kernel_rfl
noncomputable def math_bits_LeadingZeros64.e : Entry := mkX [.leaf (.int .u64)] (.one (.leaf (.int .i64))) fun x h => math_bits_LeadingZeros64 x h
theorem math_bits_LeadingZeros64.ok : EntryOK Try.prog 94 (math_bits_LeadingZeros64.e) := mkX_ok (math_bits_LeadingZeros64.tbok) Try.mixed Try.func94 (by kernel_rfl) (math_bits_LeadingZeros64.eq)
noncomputable def math_bits_LeadingZeros64P (a0 : Int) : Option (Int) := (math_bits_LeadingZeros64 a0 H.empty).bind fun p => rdRes false p.2 (.one (.leaf (.int .i64))) (Res.un (.one (.leaf (.int .i64))) p.1)
theorem math_bits_LeadingZeros64P.eq : ∀ x : TT [.leaf (.int .u64)], ((evalFn Try.prog (math_bits_LeadingZeros64.tb) math_bits_LeadingZeros64.A Try.f94 (.one (.leaf (.int .i64))) (TT.lo false [.leaf (.int .u64)] x) H.empty).bind fun p => rdRes false p.2 (.one (.leaf (.int .i64))) (Res.un (.one (.leaf (.int .i64))) p.1)) = math_bits_LeadingZeros64P x := by
  intro x
  rw [show TT.lo false [.leaf (.int .u64)] x = TT.un [.leaf (.int .u64)] (x) from rfl, math_bits_LeadingZeros64.eq]
  rfl
noncomputable def math_bits_LeadingZeros64P.e : Entry := mkP [.leaf (.int .u64)] (.one (.leaf (.int .i64))) fun x => math_bits_LeadingZeros64P x
theorem math_bits_LeadingZeros64P.ok : EntryOK Try.prog 94 (math_bits_LeadingZeros64P.e) := mkP_ok (math_bits_LeadingZeros64.tbok) Try.mixed Try.func94 (by kernel_rfl) math_bits_LeadingZeros64P.eq

/-! ### math/bits.Div64: function 82 -/
noncomputable def math_bits_Div64.tb : Table := tab [(94, math_bits_LeadingZeros64P.e)] [] Table.nil
theorem math_bits_Div64.tbok : TabOK Try.prog (math_bits_Div64.tb) := TabOK.tab (TabOK.nil Try.prog) (all_cons math_bits_LeadingZeros64P.ok (all_nil _)) (all_nil _)
noncomputable def math_bits_Div64.loop1 (a1 : Int) (a2 : Int) (r6 : Int) : (Int × Int) × H → Option (Stp ((Int × Int) × H) (Flow (Int) (Int × Int) × H)) := fun ((y7, y8), h9) =>
(((bif !(decide ((4294967296 : Int) ≤ y7)) then (some ((decide ((IntKind.wrap .u64 ((IntKind.wrap .u64 (4294967296 * y8)) + (Int.fdiv (IntKind.wrap .u64 (a1 * 2 ^ (min (Int.toNat (IntKind.wrap .u64 (r6))) (IntKind.bits .u64)))) (2 ^ (min (Int.toNat 32) (IntKind.bits .u64)))))) < (IntKind.wrap .u64 (y7 * (bitsI .and .u64 (IntKind.wrap .u64 (a2 * 2 ^ (min (Int.toNat (IntKind.wrap .u64 (r6))) (IntKind.bits .u64)))) 4294967295))))), h9)) else (some (true, h9)))).bind fun (y10, h11) =>
(bif y10 then (bif (decide ((4294967296 : Int) ≤ (IntKind.wrap .u64 (y8 + (Int.fdiv (IntKind.wrap .u64 (a2 * 2 ^ (min (Int.toNat (IntKind.wrap .u64 (r6))) (IntKind.bits .u64)))) (2 ^ (min (Int.toNat 32) (IntKind.bits .u64)))))))) then (some (.done (.ex0 (IntKind.wrap .u64 (y7 - 1)), h11))) else (some (.more (((IntKind.wrap .u64 (y7 - 1)), (IntKind.wrap .u64 (y8 + (Int.fdiv (IntKind.wrap .u64 (a2 * 2 ^ (min (Int.toNat (IntKind.wrap .u64 (r6))) (IntKind.bits .u64)))) (2 ^ (min (Int.toNat 32) (IntKind.bits .u64))))))), h11)))) else (some (.done (.ex0 y7, h11)))))
noncomputable def math_bits_Div64.loop2 (a1 : Int) (a2 : Int) (r6 : Int) : (Int × Int) × H → Option (Stp ((Int × Int) × H) (Flow (Int) (Int × Int) × H)) := fun ((y16, y17), h18) =>
(((bif !(decide ((4294967296 : Int) ≤ y16)) then (some ((decide ((IntKind.wrap .u64 ((IntKind.wrap .u64 (4294967296 * y17)) + (bitsI .and .u64 (IntKind.wrap .u64 (a1 * 2 ^ (min (Int.toNat (IntKind.wrap .u64 (r6))) (IntKind.bits .u64)))) 4294967295))) < (IntKind.wrap .u64 (y16 * (bitsI .and .u64 (IntKind.wrap .u64 (a2 * 2 ^ (min (Int.toNat (IntKind.wrap .u64 (r6))) (IntKind.bits .u64)))) 4294967295))))), h18)) else (some (true, h18)))).bind fun (y19, h20) =>
(bif y19 then (bif (decide ((4294967296 : Int) ≤ (IntKind.wrap .u64 (y17 + (Int.fdiv (IntKind.wrap .u64 (a2 * 2 ^ (min (Int.toNat (IntKind.wrap .u64 (r6))) (IntKind.bits .u64)))) (2 ^ (min (Int.toNat 32) (IntKind.bits .u64)))))))) then (some (.done (.ex0 (IntKind.wrap .u64 (y16 - 1)), h20))) else (some (.more (((IntKind.wrap .u64 (y16 - 1)), (IntKind.wrap .u64 (y17 + (Int.fdiv (IntKind.wrap .u64 (a2 * 2 ^ (min (Int.toNat (IntKind.wrap .u64 (r6))) (IntKind.bits .u64)))) (2 ^ (min (Int.toNat 32) (IntKind.bits .u64))))))), h20)))) else (some (.done (.ex0 y16, h20)))))
noncomputable def math_bits_Div64 (a0 : Int) (a1 : Int) (a2 : Int) (h : H) : Option ((Int × Int) × H) :=
((bif (decide (a2 = 0)) then none else (some (.next (), h)) : Option (Flow (Unit) (Int × Int) × H)).bind fun (fl2, h1) => match fl2 with
| .next _ =>
((bif (decide (a2 ≤ a0)) then none else (some (.next (), h1)) : Option (Flow (Unit) (Int × Int) × H)).bind fun (fl4, h3) => match fl4 with
| .next _ =>
(bif (decide (a0 = 0)) then (let h5 : H := H.reserve h3 0
(guardO (a2 ≠ 0) (guardO (a2 ≠ 0) (some (((IntKind.wrap .u64 (Int.tdiv a1 a2)), (Int.tmod a1 a2)), h5))))) else ((math_bits_LeadingZeros64P a2).bind fun r6 =>
(guardO (0 ≤ (IntKind.wrap .u64 (r6))) (guardO (0 ≤ (IntKind.wrap .u64 (r6))) (guardO (0 ≤ (IntKind.wrap .u64 (64 - (IntKind.wrap .u64 (r6))))) (guardO (0 ≤ (IntKind.wrap .u64 (r6))) (guardO ((Int.fdiv (IntKind.wrap .u64 (a2 * 2 ^ (min (Int.toNat (IntKind.wrap .u64 (r6))) (IntKind.bits .u64)))) (2 ^ (min (Int.toNat 32) (IntKind.bits .u64)))) ≠ 0) ((iter FUEL (math_bits_Div64.loop1 a1 a2 r6) (((IntKind.wrap .u64 (Int.tdiv (bitsI .or .u64 (IntKind.wrap .u64 (a0 * 2 ^ (min (Int.toNat (IntKind.wrap .u64 (r6))) (IntKind.bits .u64)))) (Int.fdiv a1 (2 ^ (min (Int.toNat (IntKind.wrap .u64 (64 - (IntKind.wrap .u64 (r6))))) (IntKind.bits .u64))))) (Int.fdiv (IntKind.wrap .u64 (a2 * 2 ^ (min (Int.toNat (IntKind.wrap .u64 (r6))) (IntKind.bits .u64)))) (2 ^ (min (Int.toNat 32) (IntKind.bits .u64)))))), (IntKind.wrap .u64 ((bitsI .or .u64 (IntKind.wrap .u64 (a0 * 2 ^ (min (Int.toNat (IntKind.wrap .u64 (r6))) (IntKind.bits .u64)))) (Int.fdiv a1 (2 ^ (min (Int.toNat (IntKind.wrap .u64 (64 - (IntKind.wrap .u64 (r6))))) (IntKind.bits .u64))))) - (IntKind.wrap .u64 ((IntKind.wrap .u64 (Int.tdiv (bitsI .or .u64 (IntKind.wrap .u64 (a0 * 2 ^ (min (Int.toNat (IntKind.wrap .u64 (r6))) (IntKind.bits .u64)))) (Int.fdiv a1 (2 ^ (min (Int.toNat (IntKind.wrap .u64 (64 - (IntKind.wrap .u64 (r6))))) (IntKind.bits .u64))))) (Int.fdiv (IntKind.wrap .u64 (a2 * 2 ^ (min (Int.toNat (IntKind.wrap .u64 (r6))) (IntKind.bits .u64)))) (2 ^ (min (Int.toNat 32) (IntKind.bits .u64)))))) * (Int.fdiv (IntKind.wrap .u64 (a2 * 2 ^ (min (Int.toNat (IntKind.wrap .u64 (r6))) (IntKind.bits .u64)))) (2 ^ (min (Int.toNat 32) (IntKind.bits .u64))))))))), h3)).bind fun (fl13, h12) => match fl13 with
| .next _ => none
| .ret rr14 => (some (rr14, h12))
| .ex0 y15 =>
(guardO ((Int.fdiv (IntKind.wrap .u64 (a2 * 2 ^ (min (Int.toNat (IntKind.wrap .u64 (r6))) (IntKind.bits .u64)))) (2 ^ (min (Int.toNat 32) (IntKind.bits .u64)))) ≠ 0) ((iter FUEL (math_bits_Div64.loop2 a1 a2 r6) (((IntKind.wrap .u64 (Int.tdiv (IntKind.wrap .u64 ((IntKind.wrap .u64 ((IntKind.wrap .u64 ((bitsI .or .u64 (IntKind.wrap .u64 (a0 * 2 ^ (min (Int.toNat (IntKind.wrap .u64 (r6))) (IntKind.bits .u64)))) (Int.fdiv a1 (2 ^ (min (Int.toNat (IntKind.wrap .u64 (64 - (IntKind.wrap .u64 (r6))))) (IntKind.bits .u64))))) * 4294967296)) + (Int.fdiv (IntKind.wrap .u64 (a1 * 2 ^ (min (Int.toNat (IntKind.wrap .u64 (r6))) (IntKind.bits .u64)))) (2 ^ (min (Int.toNat 32) (IntKind.bits .u64)))))) - (IntKind.wrap .u64 (y15 * (IntKind.wrap .u64 (a2 * 2 ^ (min (Int.toNat (IntKind.wrap .u64 (r6))) (IntKind.bits .u64)))))))) (Int.fdiv (IntKind.wrap .u64 (a2 * 2 ^ (min (Int.toNat (IntKind.wrap .u64 (r6))) (IntKind.bits .u64)))) (2 ^ (min (Int.toNat 32) (IntKind.bits .u64)))))), (IntKind.wrap .u64 ((IntKind.wrap .u64 ((IntKind.wrap .u64 ((IntKind.wrap .u64 ((bitsI .or .u64 (IntKind.wrap .u64 (a0 * 2 ^ (min (Int.toNat (IntKind.wrap .u64 (r6))) (IntKind.bits .u64)))) (Int.fdiv a1 (2 ^ (min (Int.toNat (IntKind.wrap .u64 (64 - (IntKind.wrap .u64 (r6))))) (IntKind.bits .u64))))) * 4294967296)) + (Int.fdiv (IntKind.wrap .u64 (a1 * 2 ^ (min (Int.toNat (IntKind.wrap .u64 (r6))) (IntKind.bits .u64)))) (2 ^ (min (Int.toNat 32) (IntKind.bits .u64)))))) - (IntKind.wrap .u64 (y15 * (IntKind.wrap .u64 (a2 * 2 ^ (min (Int.toNat (IntKind.wrap .u64 (r6))) (IntKind.bits .u64)))))))) - (IntKind.wrap .u64 ((IntKind.wrap .u64 (Int.tdiv (IntKind.wrap .u64 ((IntKind.wrap .u64 ((IntKind.wrap .u64 ((bitsI .or .u64 (IntKind.wrap .u64 (a0 * 2 ^ (min (Int.toNat (IntKind.wrap .u64 (r6))) (IntKind.bits .u64)))) (Int.fdiv a1 (2 ^ (min (Int.toNat (IntKind.wrap .u64 (64 - (IntKind.wrap .u64 (r6))))) (IntKind.bits .u64))))) * 4294967296)) + (Int.fdiv (IntKind.wrap .u64 (a1 * 2 ^ (min (Int.toNat (IntKind.wrap .u64 (r6))) (IntKind.bits .u64)))) (2 ^ (min (Int.toNat 32) (IntKind.bits .u64)))))) - (IntKind.wrap .u64 (y15 * (IntKind.wrap .u64 (a2 * 2 ^ (min (Int.toNat (IntKind.wrap .u64 (r6))) (IntKind.bits .u64)))))))) (Int.fdiv (IntKind.wrap .u64 (a2 * 2 ^ (min (Int.toNat (IntKind.wrap .u64 (r6))) (IntKind.bits .u64)))) (2 ^ (min (Int.toNat 32) (IntKind.bits .u64)))))) * (Int.fdiv (IntKind.wrap .u64 (a2 * 2 ^ (min (Int.toNat (IntKind.wrap .u64 (r6))) (IntKind.bits .u64)))) (2 ^ (min (Int.toNat 32) (IntKind.bits .u64))))))))), h12)).bind fun (fl22, h21) => match fl22 with
| .next _ => none
| .ret rr23 => (some (rr23, h21))
| .ex0 y24 =>
(guardO (0 ≤ (IntKind.wrap .u64 (r6))) (some (((IntKind.wrap .u64 ((IntKind.wrap .u64 (y15 * 4294967296)) + y24)), (Int.fdiv (IntKind.wrap .u64 ((IntKind.wrap .u64 ((IntKind.wrap .u64 ((IntKind.wrap .u64 ((IntKind.wrap .u64 ((IntKind.wrap .u64 ((bitsI .or .u64 (IntKind.wrap .u64 (a0 * 2 ^ (min (Int.toNat (IntKind.wrap .u64 (r6))) (IntKind.bits .u64)))) (Int.fdiv a1 (2 ^ (min (Int.toNat (IntKind.wrap .u64 (64 - (IntKind.wrap .u64 (r6))))) (IntKind.bits .u64))))) * 4294967296)) + (Int.fdiv (IntKind.wrap .u64 (a1 * 2 ^ (min (Int.toNat (IntKind.wrap .u64 (r6))) (IntKind.bits .u64)))) (2 ^ (min (Int.toNat 32) (IntKind.bits .u64)))))) - (IntKind.wrap .u64 (y15 * (IntKind.wrap .u64 (a2 * 2 ^ (min (Int.toNat (IntKind.wrap .u64 (r6))) (IntKind.bits .u64)))))))) * 4294967296)) + (bitsI .and .u64 (IntKind.wrap .u64 (a1 * 2 ^ (min (Int.toNat (IntKind.wrap .u64 (r6))) (IntKind.bits .u64)))) 4294967295))) - (IntKind.wrap .u64 (y24 * (IntKind.wrap .u64 (a2 * 2 ^ (min (Int.toNat (IntKind.wrap .u64 (r6))) (IntKind.bits .u64)))))))) (2 ^ (min (Int.toNat (IntKind.wrap .u64 (r6))) (IntKind.bits .u64))))), h21)))
| .ex1 _ => none))
| .ex1 _ => none))))))))
| .ret rr25 => (some (rr25, h3))
| .ex0 _ => none
| .ex1 _ => none)
| .ret rr26 => (some (rr26, h1))
| .ex0 _ => none
| .ex1 _ => none)
def math_bits_Div64.A : Ann := { lits := [], conds := [(20, [], [], none, none), (24, [], [], none, none)], loops := [(17, [15, 16], [.leaf (.int .u64), .leaf (.int .u64)], [15], [.leaf (.int .u64)], some 0, none), (24, [18, 16], [.leaf (.int .u64), .leaf (.int .u64)], [18], [.leaf (.int .u64)], some 2, none)], regs := [(17, [78], [.leaf .bool]), (24, [113], [.leaf .bool])] }
theorem math_bits_Div64.eq : ∀ (x : TT [.leaf (.int .u64), .leaf (.int .u64), .leaf (.int .u64)]) (h : H), evalFn Try.prog (math_bits_Div64.tb) math_bits_Div64.A Try.f82 (.many [.leaf (.int .u64), .leaf (.int .u64)]) (TT.un [.leaf (.int .u64), .leaf (.int .u64), .leaf (.int .u64)] x) h = math_bits_Div64 x.1 x.2.1 x.2.2 h := by
  intro x h
  kernel_rfl
noncomputable def math_bits_Div64.e : Entry := mkX [.leaf (.int .u64), .leaf (.int .u64), .leaf (.int .u64)] (.many [.leaf (.int .u64), .leaf (.int .u64)]) fun x h => math_bits_Div64 x.1 x.2.1 x.2.2 h
theorem math_bits_Div64.ok : EntryOK Try.prog 82 (math_bits_Div64.e) := mkX_ok (math_bits_Div64.tbok) Try.mixed Try.func82 (by kernel_rfl) (math_bits_Div64.eq)
noncomputable def math_bits_Div64P (a0 : Int) (a1 : Int) (a2 : Int) : Option (Int × Int) := (math_bits_Div64 a0 a1 a2 H.empty).bind fun p => rdRes false p.2 (.many [.leaf (.int .u64), .leaf (.int .u64)]) (Res.un (.many [.leaf (.int .u64), .leaf (.int .u64)]) p.1)
theorem math_bits_Div64P.eq : ∀ x : TT [.leaf (.int .u64), .leaf (.int .u64), .leaf (.int .u64)], ((evalFn Try.prog (math_bits_Div64.tb) math_bits_Div64.A Try.f82 (.many [.leaf (.int .u64), .leaf (.int .u64)]) (TT.lo false [.leaf (.int .u64), .leaf (.int .u64), .leaf (.int .u64)] x) H.empty).bind fun p => rdRes false p.2 (.many [.leaf (.int .u64), .leaf (.int .u64)]) (Res.un (.many [.leaf (.int .u64), .leaf (.int .u64)]) p.1)) = math_bits_Div64P x.1 x.2.1 x.2.2 := by
  intro x
  rw [show TT.lo false [.leaf (.int .u64), .leaf (.int .u64), .leaf (.int .u64)] x = TT.un [.leaf (.int .u64), .leaf (.int .u64), .leaf (.int .u64)] (x.1, x.2.1, x.2.2) from rfl, math_bits_Div64.eq]
  rfl
noncomputable def math_bits_Div64P.e : Entry := mkP [.leaf (.int .u64), .leaf (.int .u64), .leaf (.int .u64)] (.many [.leaf (.int .u64), .leaf (.int .u64)]) fun x => math_bits_Div64P x.1 x.2.1 x.2.2
theorem math_bits_Div64P.ok : EntryOK Try.prog 82 (math_bits_Div64P.e) := mkP_ok (math_bits_Div64.tbok) Try.mixed Try.func82 (by kernel_rfl) math_bits_Div64P.eq

/-! ### spile/proportion.divided: function 65 -/
noncomputable def proportion_divided.tb : Table := tab [(81, proportion_productP.e), (82, math_bits_Div64P.e)] [] Table.nil
theorem proportion_divided.tbok : TabOK Try.prog (proportion_divided.tb) := TabOK.tab (TabOK.nil Try.prog) (all_cons proportion_productP.ok (all_cons math_bits_Div64P.ok (all_nil _))) (all_nil _)
noncomputable def proportion_divided (a0 : Int) (a1 : Int) (a2 : Int) (h : H) : Option ((Int × Int × Bool) × H) :=
((proportion_productP a0 a1).bind fun (r1_0, r1_1) =>
(let h2 : H := H.new h [.int .u64 0, .int .u64 0] 2
((H.wrs h2 (.hp h.next 2 0) [.int .u64 r1_0, .int .u64 r1_1]).bind fun h3 =>
((rdT (.leaf (.int .u64)) h3 (.hp h.next 2 0)).bind fun x4 =>
(bif (decide ((IntKind.wrap .u64 (a2)) ≤ x4)) then (some ((0, 0, false), h3)) else ((rdT (.leaf (.int .u64)) h3 (.hp h.next 2 0)).bind fun x5 =>
((rdT (.leaf (.int .u64)) h3 (.hp h.next 2 1)).bind fun x6 =>
((math_bits_Div64P x5 x6 (IntKind.wrap .u64 (a2))).bind fun (r7, r8) =>
(bif (decide ((128849018880000 : Int) < r7)) then (some ((0, 0, false), h3)) else (some (((IntKind.wrap .i64 (r7)), (IntKind.wrap .i64 (r8)), true), h3)))))))))))
def proportion_divided.A : Ann := { lits := [], conds := [], loops := [], regs := [] }
theorem proportion_divided.eq : ∀ (x : TT [.leaf (.int .i64), .leaf (.int .i64), .leaf (.int .i64)]) (h : H), evalFn Try.prog (proportion_divided.tb) proportion_divided.A Try.f65 (.many [.leaf (.int .i64), .leaf (.int .i64), .leaf .bool]) (TT.un [.leaf (.int .i64), .leaf (.int .i64), .leaf (.int .i64)] x) h = proportion_divided x.1 x.2.1 x.2.2 h := by
  intro x h
  kernel_rfl
noncomputable def proportion_divided.e : Entry := mkX [.leaf (.int .i64), .leaf (.int .i64), .leaf (.int .i64)] (.many [.leaf (.int .i64), .leaf (.int .i64), .leaf .bool]) fun x h => proportion_divided x.1 x.2.1 x.2.2 h
theorem proportion_divided.ok : EntryOK Try.prog 65 (proportion_divided.e) := mkX_ok (proportion_divided.tbok) Try.mixed Try.func65 (by kernel_rfl) (proportion_divided.eq)
noncomputable def proportion_dividedP (a0 : Int) (a1 : Int) (a2 : Int) : Option (Int × Int × Bool) := (proportion_divided a0 a1 a2 H.empty).bind fun p => rdRes false p.2 (.many [.leaf (.int .i64), .leaf (.int .i64), .leaf .bool]) (Res.un (.many [.leaf (.int .i64), .leaf (.int .i64), .leaf .bool]) p.1)
theorem proportion_dividedP.eq : ∀ x : TT [.leaf (.int .i64), .leaf (.int .i64), .leaf (.int .i64)], ((evalFn Try.prog (proportion_divided.tb) proportion_divided.A Try.f65 (.many [.leaf (.int .i64), .leaf (.int .i64), .leaf .bool]) (TT.lo false [.leaf (.int .i64), .leaf (.int .i64), .leaf (.int .i64)] x) H.empty).bind fun p => rdRes false p.2 (.many [.leaf (.int .i64), .leaf (.int .i64), .leaf .bool]) (Res.un (.many [.leaf (.int .i64), .leaf (.int .i64), .leaf .bool]) p.1)) = proportion_dividedP x.1 x.2.1 x.2.2 := by
  intro x
  rw [show TT.lo false [.leaf (.int .i64), .leaf (.int .i64), .leaf (.int .i64)] x = TT.un [.leaf (.int .i64), .leaf (.int .i64), .leaf (.int .i64)] (x.1, x.2.1, x.2.2) from rfl, proportion_divided.eq]
  rfl
noncomputable def proportion_dividedP.e : Entry := mkP [.leaf (.int .i64), .leaf (.int .i64), .leaf (.int .i64)] (.many [.leaf (.int .i64), .leaf (.int .i64), .leaf .bool]) fun x => proportion_dividedP x.1 x.2.1 x.2.2
theorem proportion_dividedP.ok : EntryOK Try.prog 65 (proportion_dividedP.e) := mkP_ok (proportion_divided.tbok) Try.mixed Try.func65 (by kernel_rfl) proportion_dividedP.eq

/-! ### slices.insertionSortCmpFunc[int]: function 95 -/
noncomputable def slices_insertionSortCmpFunc_int.tb (T : Table) : Table := tab [] [] T
theorem slices_insertionSortCmpFunc_int.tbok (T : Table) (hT : TabOK Try.prog T) : TabOK Try.prog (slices_insertionSortCmpFunc_int.tb T) := TabOK.tab (hT) (all_nil _) (all_nil _)
noncomputable def slices_insertionSortCmpFunc_int.loop1 (T : Table) (a0 : SV) (a1 : Int) (a3 : V) : (Int) × H → Option (Stp ((Int) × H) (Flow (Unit) (Unit) × H)) := fun (y3, h4) =>
(((let h5 : H := H.reserve h4 0
(bif (decide (a1 < y3)) then (guardO (0 ≤ y3 ∧ y3 < ((a0.len : Nat) : Int)) ((rdT (.leaf (.int .i64)) h5 (V.add a0.a (Int.toNat y3 * 1))).bind fun x6 =>
(guardO (0 ≤ (IntKind.wrap .i64 (y3 - 1)) ∧ (IntKind.wrap .i64 (y3 - 1)) < ((a0.len : Nat) : Int)) ((rdT (.leaf (.int .i64)) h5 (V.add a0.a (Int.toNat (IntKind.wrap .i64 (y3 - 1)) * 1))).bind fun x7 =>
(callV T.dy a3 [.int .i64 x6, .int .i64 x7] h5 fun v8 h9 =>
(Res.pack (.one (.leaf (.int .i64))) v8).bind fun r10 =>
(some ((decide (r10 < 0)), h9))))))) else (some (false, h5))))).bind fun (y11, h12) =>
(bif y11 then (let h13 : H := H.reserve h12 0
(guardO (0 ≤ (IntKind.wrap .i64 (y3 - 1)) ∧ (IntKind.wrap .i64 (y3 - 1)) < ((a0.len : Nat) : Int)) ((rdT (.leaf (.int .i64)) h13 (V.add a0.a (Int.toNat (IntKind.wrap .i64 (y3 - 1)) * 1))).bind fun x14 =>
(guardO (0 ≤ y3 ∧ y3 < ((a0.len : Nat) : Int)) ((rdT (.leaf (.int .i64)) h13 (V.add a0.a (Int.toNat y3 * 1))).bind fun x15 =>
(guardO (0 ≤ y3 ∧ y3 < ((a0.len : Nat) : Int)) ((H.wrs h13 (V.add a0.a (Int.toNat y3 * 1)) [.int .i64 x14]).bind fun h16 =>
(guardO (0 ≤ (IntKind.wrap .i64 (y3 - 1)) ∧ (IntKind.wrap .i64 (y3 - 1)) < ((a0.len : Nat) : Int)) ((H.wrs h16 (V.add a0.a (Int.toNat (IntKind.wrap .i64 (y3 - 1)) * 1)) [.int .i64 x15]).bind fun h17 =>
(some (.more ((IntKind.wrap .i64 (y3 - 1)), h17)))))))))))) else (some (.done (.ex0 (), h12)))))
noncomputable def slices_insertionSortCmpFunc_int.loop2 (T : Table) (a0 : SV) (a1 : Int) (a2 : Int) (a3 : V) : (Int) × H → Option (Stp ((Int) × H) (Flow (Unit) (Unit) × H)) := fun (y1, h2) =>
(bif (decide (y1 < a2)) then ((iter FUEL (slices_insertionSortCmpFunc_int.loop1 T a0 a1 a3) (y1, h2)).bind fun (fl19, h18) => match fl19 with
| .next _ => none
| .ret rr20 => (some (.done (.ret rr20, h18)))
| .ex0 _ =>
(some (.more ((IntKind.wrap .i64 (y1 + 1)), h18)))
| .ex1 _ => none) else (some (.done (.ex0 (), h2))))
noncomputable def slices_insertionSortCmpFunc_int (T : Table) (a0 : SV) (a1 : Int) (a2 : Int) (a3 : V) (h : H) : Option ((Unit) × H) :=
((iter FUEL (slices_insertionSortCmpFunc_int.loop2 T a0 a1 a2 a3) ((IntKind.wrap .i64 (a1 + 1)), h)).bind fun (fl22, h21) => match fl22 with
| .next _ => none
| .ret rr23 => (some (rr23, h21))
| .ex0 _ =>
(some ((), h21))
| .ex1 _ => none)
def slices_insertionSortCmpFunc_int.A : Ann := { lits := [], conds := [], loops := [(4, [9], [.leaf (.int .i64)], [], [], some 2, none), (1, [8], [.leaf (.int .i64)], [], [], some 0, none)], regs := [(4, [34], [.leaf .bool])] }
theorem slices_insertionSortCmpFunc_int.eq (T : Table) : ∀ (x : TT [.leaf .slice, .leaf (.int .i64), .leaf (.int .i64), .leaf .dyn]) (h : H), evalFn Try.prog (slices_insertionSortCmpFunc_int.tb T) slices_insertionSortCmpFunc_int.A Try.f95 (.many []) (TT.un [.leaf .slice, .leaf (.int .i64), .leaf (.int .i64), .leaf .dyn] x) h = slices_insertionSortCmpFunc_int T x.1 x.2.1 x.2.2.1 x.2.2.2 h := by
  intro x h
  kernel_rfl
noncomputable def slices_insertionSortCmpFunc_int.e (T : Table) : Entry := mkX [.leaf .slice, .leaf (.int .i64), .leaf (.int .i64), .leaf .dyn] (.many []) fun x h => slices_insertionSortCmpFunc_int T x.1 x.2.1 x.2.2.1 x.2.2.2 h
theorem slices_insertionSortCmpFunc_int.ok (T : Table) (hT : TabOK Try.prog T) : EntryOK Try.prog 95 (slices_insertionSortCmpFunc_int.e T) := mkX_ok (slices_insertionSortCmpFunc_int.tbok T hT) Try.mixed Try.func95 (by kernel_rfl) (slices_insertionSortCmpFunc_int.eq T)

/-! ### slices.swapRangeCmpFunc[int]: function 105 -/
noncomputable def slices_swapRangeCmpFunc_int.tb (T : Table) : Table := tab [] [] T
theorem slices_swapRangeCmpFunc_int.tbok (T : Table) (hT : TabOK Try.prog T) : TabOK Try.prog (slices_swapRangeCmpFunc_int.tb T) := TabOK.tab (hT) (all_nil _) (all_nil _)
noncomputable def slices_swapRangeCmpFunc_int.loop1 (T : Table) (a0 : SV) (a1 : Int) (a2 : Int) (a3 : Int) : (Int) × H → Option (Stp ((Int) × H) (Flow (Unit) (Unit) × H)) := fun (y1, h2) =>
(bif (decide (y1 < a3)) then (let h3 : H := H.reserve h2 0
(guardO (0 ≤ (IntKind.wrap .i64 (a2 + y1)) ∧ (IntKind.wrap .i64 (a2 + y1)) < ((a0.len : Nat) : Int)) ((rdT (.leaf (.int .i64)) h3 (V.add a0.a (Int.toNat (IntKind.wrap .i64 (a2 + y1)) * 1))).bind fun x4 =>
(guardO (0 ≤ (IntKind.wrap .i64 (a1 + y1)) ∧ (IntKind.wrap .i64 (a1 + y1)) < ((a0.len : Nat) : Int)) ((rdT (.leaf (.int .i64)) h3 (V.add a0.a (Int.toNat (IntKind.wrap .i64 (a1 + y1)) * 1))).bind fun x5 =>
(guardO (0 ≤ (IntKind.wrap .i64 (a1 + y1)) ∧ (IntKind.wrap .i64 (a1 + y1)) < ((a0.len : Nat) : Int)) ((H.wrs h3 (V.add a0.a (Int.toNat (IntKind.wrap .i64 (a1 + y1)) * 1)) [.int .i64 x4]).bind fun h6 =>
(guardO (0 ≤ (IntKind.wrap .i64 (a2 + y1)) ∧ (IntKind.wrap .i64 (a2 + y1)) < ((a0.len : Nat) : Int)) ((H.wrs h6 (V.add a0.a (Int.toNat (IntKind.wrap .i64 (a2 + y1)) * 1)) [.int .i64 x5]).bind fun h7 =>
(some (.more ((IntKind.wrap .i64 (y1 + 1)), h7)))))))))))) else (some (.done (.ex0 (), h2))))
noncomputable def slices_swapRangeCmpFunc_int (T : Table) (a0 : SV) (a1 : Int) (a2 : Int) (a3 : Int) (a4 : V) (h : H) : Option ((Unit) × H) :=
((iter FUEL (slices_swapRangeCmpFunc_int.loop1 T a0 a1 a2 a3) (0, h)).bind fun (fl9, h8) => match fl9 with
| .next _ => none
| .ret rr10 => (some (rr10, h8))
| .ex0 _ =>
(some ((), h8))
| .ex1 _ => none)
def slices_swapRangeCmpFunc_int.A : Ann := { lits := [], conds := [], loops := [(1, [10], [.leaf (.int .i64)], [], [], some 0, none)], regs := [] }
theorem slices_swapRangeCmpFunc_int.eq (T : Table) : ∀ (x : TT [.leaf .slice, .leaf (.int .i64), .leaf (.int .i64), .leaf (.int .i64), .leaf .dyn]) (h : H), evalFn Try.prog (slices_swapRangeCmpFunc_int.tb T) slices_swapRangeCmpFunc_int.A Try.f105 (.many []) (TT.un [.leaf .slice, .leaf (.int .i64), .leaf (.int .i64), .leaf (.int .i64), .leaf .dyn] x) h = slices_swapRangeCmpFunc_int T x.1 x.2.1 x.2.2.1 x.2.2.2.1 x.2.2.2.2 h := by
  intro x h
  kernel_rfl
noncomputable def slices_swapRangeCmpFunc_int.e (T : Table) : Entry := mkX [.leaf .slice, .leaf (.int .i64), .leaf (.int .i64), .leaf (.int .i64), .leaf .dyn] (.many []) fun x h => slices_swapRangeCmpFunc_int T x.1 x.2.1 x.2.2.1 x.2.2.2.1 x.2.2.2.2 h
theorem slices_swapRangeCmpFunc_int.ok (T : Table) (hT : TabOK Try.prog T) : EntryOK Try.prog 105 (slices_swapRangeCmpFunc_int.e T) := mkX_ok (slices_swapRangeCmpFunc_int.tbok T hT) Try.mixed Try.func105 (by kernel_rfl) (slices_swapRangeCmpFunc_int.eq T)

/-! ### slices.rotateCmpFunc[int]: function 104 -/
noncomputable def slices_rotateCmpFunc_int.tb (T : Table) : Table := tab [] [] T
theorem slices_rotateCmpFunc_int.tbok (T : Table) (hT : TabOK Try.prog T) : TabOK Try.prog (slices_rotateCmpFunc_int.tb T) := TabOK.tab (hT) (all_nil _) (all_nil _)
noncomputable def slices_rotateCmpFunc_int.loop1 (T : Table) (a0 : SV) (a2 : Int) (a4 : V) : (Int × Int) × H → Option (Stp ((Int × Int) × H) (Flow (Int) (Unit) × H)) := fun ((y1, y2), h3) =>
(bif (!(decide (y1 = y2))) then ((bif (decide (y2 < y1)) then ((slices_swapRangeCmpFunc_int (slices_rotateCmpFunc_int.tb T) a0 (IntKind.wrap .i64 (a2 - y1)) a2 y2 a4 h3).bind fun (_, h4) =>
(some (.next ((IntKind.wrap .i64 (y1 - y2)), y2), h4))) else ((slices_swapRangeCmpFunc_int (slices_rotateCmpFunc_int.tb T) a0 (IntKind.wrap .i64 (a2 - y1)) (IntKind.wrap .i64 ((IntKind.wrap .i64 (a2 + y2)) - y1)) y1 a4 h3).bind fun (_, h5) =>
(some (.next (y1, (IntKind.wrap .i64 (y2 - y1))), h5))) : Option (Flow (Int × Int) (Unit) × H)).bind fun (fl7, h6) => match fl7 with
| .next (y8, y9) =>
(some (.more ((y8, y9), h6)))
| .ret rr10 => (some (.done (.ret rr10, h6)))
| .ex0 _ => none
| .ex1 _ => none) else (some (.done (.ex0 y1, h3))))
noncomputable def slices_rotateCmpFunc_int (T : Table) (a0 : SV) (a1 : Int) (a2 : Int) (a3 : Int) (a4 : V) (h : H) : Option ((Unit) × H) :=
((iter FUEL (slices_rotateCmpFunc_int.loop1 T a0 a2 a4) (((IntKind.wrap .i64 (a2 - a1)), (IntKind.wrap .i64 (a3 - a2))), h)).bind fun (fl12, h11) => match fl12 with
| .next _ => none
| .ret rr13 => (some (rr13, h11))
| .ex0 y14 =>
((slices_swapRangeCmpFunc_int (slices_rotateCmpFunc_int.tb T) a0 (IntKind.wrap .i64 (a2 - y14)) a2 y14 a4 h11).bind fun (_, h15) =>
(some ((), h15)))
| .ex1 _ => none)
def slices_rotateCmpFunc_int.A : Ann := { lits := [], conds := [(23, [10, 11], [.leaf (.int .i64), .leaf (.int .i64)], none, none)], loops := [(2, [10, 11], [.leaf (.int .i64), .leaf (.int .i64)], [10], [.leaf (.int .i64)], some 0, none)], regs := [] }
noncomputable def slices_rotateCmpFunc_int.tc (T : Table) : Table := tab [(105, slices_swapRangeCmpFunc_int.e (slices_rotateCmpFunc_int.tb T))] [] (slices_rotateCmpFunc_int.tb T)
theorem slices_rotateCmpFunc_int.tcok (T : Table) (hT : TabOK Try.prog T) : TabOK Try.prog (slices_rotateCmpFunc_int.tc T) := TabOK.tab (slices_rotateCmpFunc_int.tbok T hT) (all_cons (slices_swapRangeCmpFunc_int.ok _ (slices_rotateCmpFunc_int.tbok T hT)) (all_nil _)) (all_nil _)
theorem slices_rotateCmpFunc_int.eq (T : Table) : ∀ (x : TT [.leaf .slice, .leaf (.int .i64), .leaf (.int .i64), .leaf (.int .i64), .leaf .dyn]) (h : H), evalFn Try.prog (slices_rotateCmpFunc_int.tc T) slices_rotateCmpFunc_int.A Try.f104 (.many []) (TT.un [.leaf .slice, .leaf (.int .i64), .leaf (.int .i64), .leaf (.int .i64), .leaf .dyn] x) h = slices_rotateCmpFunc_int T x.1 x.2.1 x.2.2.1 x.2.2.2.1 x.2.2.2.2 h := by
  intro x h
  kernel_rfl
noncomputable def slices_rotateCmpFunc_int.e (T : Table) : Entry := mkX [.leaf .slice, .leaf (.int .i64), .leaf (.int .i64), .leaf (.int .i64), .leaf .dyn] (.many []) fun x h => slices_rotateCmpFunc_int T x.1 x.2.1 x.2.2.1 x.2.2.2.1 x.2.2.2.2 h
theorem slices_rotateCmpFunc_int.ok (T : Table) (hT : TabOK Try.prog T) : EntryOK Try.prog 104 (slices_rotateCmpFunc_int.e T) := mkX_ok (slices_rotateCmpFunc_int.tcok T hT) Try.mixed Try.func104 (by kernel_rfl) (slices_rotateCmpFunc_int.eq T)

/-! ### slices.symMergeCmpFunc[int]: function 96 -/
noncomputable def slices_symMergeCmpFunc_int.tb (T : Table) : Table := tab [] [] T
theorem slices_symMergeCmpFunc_int.tbok (T : Table) (hT : TabOK Try.prog T) : TabOK Try.prog (slices_symMergeCmpFunc_int.tb T) := TabOK.tab (hT) (all_nil _) (all_nil _)
noncomputable def slices_symMergeCmpFunc_int.loop1 (T : Table) (a0 : SV) (a1 : Int) (a4 : V) : (Int × Int) × H → Option (Stp ((Int × Int) × H) (Flow (Int) (Unit) × H)) := fun ((y1, y2), h3) =>
(bif (decide (y1 < y2)) then (let h4 : H := H.reserve h3 0
(guardO (0 ≤ (IntKind.wrap .i64 ((Int.fdiv (IntKind.wrap .u64 ((IntKind.wrap .i64 (y1 + y2)))) (2 ^ (min (Int.toNat 1) (IntKind.bits .u64)))))) ∧ (IntKind.wrap .i64 ((Int.fdiv (IntKind.wrap .u64 ((IntKind.wrap .i64 (y1 + y2)))) (2 ^ (min (Int.toNat 1) (IntKind.bits .u64)))))) < ((a0.len : Nat) : Int)) ((rdT (.leaf (.int .i64)) h4 (V.add a0.a (Int.toNat (IntKind.wrap .i64 ((Int.fdiv (IntKind.wrap .u64 ((IntKind.wrap .i64 (y1 + y2)))) (2 ^ (min (Int.toNat 1) (IntKind.bits .u64)))))) * 1))).bind fun x5 =>
(guardO (0 ≤ a1 ∧ a1 < ((a0.len : Nat) : Int)) ((rdT (.leaf (.int .i64)) h4 (V.add a0.a (Int.toNat a1 * 1))).bind fun x6 =>
(callV T.dy a4 [.int .i64 x5, .int .i64 x6] h4 fun v7 h8 =>
(Res.pack (.one (.leaf (.int .i64))) v7).bind fun r9 =>
((bif (decide (r9 < 0)) then (some (.next ((IntKind.wrap .i64 ((IntKind.wrap .i64 ((Int.fdiv (IntKind.wrap .u64 ((IntKind.wrap .i64 (y1 + y2)))) (2 ^ (min (Int.toNat 1) (IntKind.bits .u64)))))) + 1)), y2), h8)) else (some (.next (y1, (IntKind.wrap .i64 ((Int.fdiv (IntKind.wrap .u64 ((IntKind.wrap .i64 (y1 + y2)))) (2 ^ (min (Int.toNat 1) (IntKind.bits .u64))))))), h8)) : Option (Flow (Int × Int) (Unit) × H)).bind fun (fl11, h10) => match fl11 with
| .next (y12, y13) =>
(some (.more ((y12, y13), h10)))
| .ret rr14 => (some (.done (.ret rr14, h10)))
| .ex0 _ => none
| .ex1 _ => none))))))) else (some (.done (.ex0 y1, h3))))
noncomputable def slices_symMergeCmpFunc_int.loop2 (T : Table) (a0 : SV) (y18 : Int) : (Int) × H → Option (Stp ((Int) × H) (Flow (Unit) (Unit) × H)) := fun (y19, h20) =>
(bif (decide (y19 < (IntKind.wrap .i64 (y18 - 1)))) then (let h21 : H := H.reserve h20 0
(guardO (0 ≤ (IntKind.wrap .i64 (y19 + 1)) ∧ (IntKind.wrap .i64 (y19 + 1)) < ((a0.len : Nat) : Int)) ((rdT (.leaf (.int .i64)) h21 (V.add a0.a (Int.toNat (IntKind.wrap .i64 (y19 + 1)) * 1))).bind fun x22 =>
(guardO (0 ≤ y19 ∧ y19 < ((a0.len : Nat) : Int)) ((rdT (.leaf (.int .i64)) h21 (V.add a0.a (Int.toNat y19 * 1))).bind fun x23 =>
(guardO (0 ≤ y19 ∧ y19 < ((a0.len : Nat) : Int)) ((H.wrs h21 (V.add a0.a (Int.toNat y19 * 1)) [.int .i64 x22]).bind fun h24 =>
(guardO (0 ≤ (IntKind.wrap .i64 (y19 + 1)) ∧ (IntKind.wrap .i64 (y19 + 1)) < ((a0.len : Nat) : Int)) ((H.wrs h24 (V.add a0.a (Int.toNat (IntKind.wrap .i64 (y19 + 1)) * 1)) [.int .i64 x23]).bind fun h25 =>
(some (.more ((IntKind.wrap .i64 (y19 + 1)), h25)))))))))))) else (some (.done (.ex0 (), h20))))
noncomputable def slices_symMergeCmpFunc_int.loop3 (T : Table) (a0 : SV) (a2 : Int) (a4 : V) : (Int × Int) × H → Option (Stp ((Int × Int) × H) (Flow (Int) (Unit) × H)) := fun ((y29, y30), h31) =>
(bif (decide (y29 < y30)) then (let h32 : H := H.reserve h31 0
(guardO (0 ≤ a2 ∧ a2 < ((a0.len : Nat) : Int)) ((rdT (.leaf (.int .i64)) h32 (V.add a0.a (Int.toNat a2 * 1))).bind fun x33 =>
(guardO (0 ≤ (IntKind.wrap .i64 ((Int.fdiv (IntKind.wrap .u64 ((IntKind.wrap .i64 (y29 + y30)))) (2 ^ (min (Int.toNat 1) (IntKind.bits .u64)))))) ∧ (IntKind.wrap .i64 ((Int.fdiv (IntKind.wrap .u64 ((IntKind.wrap .i64 (y29 + y30)))) (2 ^ (min (Int.toNat 1) (IntKind.bits .u64)))))) < ((a0.len : Nat) : Int)) ((rdT (.leaf (.int .i64)) h32 (V.add a0.a (Int.toNat (IntKind.wrap .i64 ((Int.fdiv (IntKind.wrap .u64 ((IntKind.wrap .i64 (y29 + y30)))) (2 ^ (min (Int.toNat 1) (IntKind.bits .u64)))))) * 1))).bind fun x34 =>
(callV T.dy a4 [.int .i64 x33, .int .i64 x34] h32 fun v35 h36 =>
(Res.pack (.one (.leaf (.int .i64))) v35).bind fun r37 =>
((bif (!(decide (r37 < 0))) then (some (.next ((IntKind.wrap .i64 ((IntKind.wrap .i64 ((Int.fdiv (IntKind.wrap .u64 ((IntKind.wrap .i64 (y29 + y30)))) (2 ^ (min (Int.toNat 1) (IntKind.bits .u64)))))) + 1)), y30), h36)) else (some (.next (y29, (IntKind.wrap .i64 ((Int.fdiv (IntKind.wrap .u64 ((IntKind.wrap .i64 (y29 + y30)))) (2 ^ (min (Int.toNat 1) (IntKind.bits .u64))))))), h36)) : Option (Flow (Int × Int) (Unit) × H)).bind fun (fl39, h38) => match fl39 with
| .next (y40, y41) =>
(some (.more ((y40, y41), h38)))
| .ret rr42 => (some (.done (.ret rr42, h38)))
| .ex0 _ => none
| .ex1 _ => none))))))) else (some (.done (.ex0 y29, h31))))
noncomputable def slices_symMergeCmpFunc_int.loop4 (T : Table) (a0 : SV) (y46 : Int) : (Int) × H → Option (Stp ((Int) × H) (Flow (Unit) (Unit) × H)) := fun (y47, h48) =>
(bif (decide (y46 < y47)) then (let h49 : H := H.reserve h48 0
(guardO (0 ≤ (IntKind.wrap .i64 (y47 - 1)) ∧ (IntKind.wrap .i64 (y47 - 1)) < ((a0.len : Nat) : Int)) ((rdT (.leaf (.int .i64)) h49 (V.add a0.a (Int.toNat (IntKind.wrap .i64 (y47 - 1)) * 1))).bind fun x50 =>
(guardO (0 ≤ y47 ∧ y47 < ((a0.len : Nat) : Int)) ((rdT (.leaf (.int .i64)) h49 (V.add a0.a (Int.toNat y47 * 1))).bind fun x51 =>
(guardO (0 ≤ y47 ∧ y47 < ((a0.len : Nat) : Int)) ((H.wrs h49 (V.add a0.a (Int.toNat y47 * 1)) [.int .i64 x50]).bind fun h52 =>
(guardO (0 ≤ (IntKind.wrap .i64 (y47 - 1)) ∧ (IntKind.wrap .i64 (y47 - 1)) < ((a0.len : Nat) : Int)) ((H.wrs h52 (V.add a0.a (Int.toNat (IntKind.wrap .i64 (y47 - 1)) * 1)) [.int .i64 x51]).bind fun h53 =>
(some (.more ((IntKind.wrap .i64 (y47 - 1)), h53)))))))))))) else (some (.done (.ex0 (), h48))))
noncomputable def slices_symMergeCmpFunc_int.loop5 (T : Table) (a0 : SV) (a1 : Int) (a2 : Int) (a3 : Int) (a4 : V) : (Int × Int) × H → Option (Stp ((Int × Int) × H) (Flow (Int) (Unit) × H)) := fun ((y61, y62), h63) =>
(bif (decide (y61 < y62)) then (let h64 : H := H.reserve h63 0
(guardO (0 ≤ (IntKind.wrap .i64 ((IntKind.wrap .i64 ((IntKind.wrap .i64 ((IntKind.wrap .i64 ((Int.fdiv (IntKind.wrap .u64 ((IntKind.wrap .i64 (a1 + a3)))) (2 ^ (min (Int.toNat 1) (IntKind.bits .u64)))))) + a2)) - 1)) - (IntKind.wrap .i64 ((Int.fdiv (IntKind.wrap .u64 ((IntKind.wrap .i64 (y61 + y62)))) (2 ^ (min (Int.toNat 1) (IntKind.bits .u64)))))))) ∧ (IntKind.wrap .i64 ((IntKind.wrap .i64 ((IntKind.wrap .i64 ((IntKind.wrap .i64 ((Int.fdiv (IntKind.wrap .u64 ((IntKind.wrap .i64 (a1 + a3)))) (2 ^ (min (Int.toNat 1) (IntKind.bits .u64)))))) + a2)) - 1)) - (IntKind.wrap .i64 ((Int.fdiv (IntKind.wrap .u64 ((IntKind.wrap .i64 (y61 + y62)))) (2 ^ (min (Int.toNat 1) (IntKind.bits .u64)))))))) < ((a0.len : Nat) : Int)) ((rdT (.leaf (.int .i64)) h64 (V.add a0.a (Int.toNat (IntKind.wrap .i64 ((IntKind.wrap .i64 ((IntKind.wrap .i64 ((IntKind.wrap .i64 ((Int.fdiv (IntKind.wrap .u64 ((IntKind.wrap .i64 (a1 + a3)))) (2 ^ (min (Int.toNat 1) (IntKind.bits .u64)))))) + a2)) - 1)) - (IntKind.wrap .i64 ((Int.fdiv (IntKind.wrap .u64 ((IntKind.wrap .i64 (y61 + y62)))) (2 ^ (min (Int.toNat 1) (IntKind.bits .u64)))))))) * 1))).bind fun x65 =>
(guardO (0 ≤ (IntKind.wrap .i64 ((Int.fdiv (IntKind.wrap .u64 ((IntKind.wrap .i64 (y61 + y62)))) (2 ^ (min (Int.toNat 1) (IntKind.bits .u64)))))) ∧ (IntKind.wrap .i64 ((Int.fdiv (IntKind.wrap .u64 ((IntKind.wrap .i64 (y61 + y62)))) (2 ^ (min (Int.toNat 1) (IntKind.bits .u64)))))) < ((a0.len : Nat) : Int)) ((rdT (.leaf (.int .i64)) h64 (V.add a0.a (Int.toNat (IntKind.wrap .i64 ((Int.fdiv (IntKind.wrap .u64 ((IntKind.wrap .i64 (y61 + y62)))) (2 ^ (min (Int.toNat 1) (IntKind.bits .u64)))))) * 1))).bind fun x66 =>
(callV T.dy a4 [.int .i64 x65, .int .i64 x66] h64 fun v67 h68 =>
(Res.pack (.one (.leaf (.int .i64))) v67).bind fun r69 =>
((bif (!(decide (r69 < 0))) then (some (.next ((IntKind.wrap .i64 ((IntKind.wrap .i64 ((Int.fdiv (IntKind.wrap .u64 ((IntKind.wrap .i64 (y61 + y62)))) (2 ^ (min (Int.toNat 1) (IntKind.bits .u64)))))) + 1)), y62), h68)) else (some (.next (y61, (IntKind.wrap .i64 ((Int.fdiv (IntKind.wrap .u64 ((IntKind.wrap .i64 (y61 + y62)))) (2 ^ (min (Int.toNat 1) (IntKind.bits .u64))))))), h68)) : Option (Flow (Int × Int) (Unit) × H)).bind fun (fl71, h70) => match fl71 with
| .next (y72, y73) =>
(some (.more ((y72, y73), h70)))
| .ret rr74 => (some (.done (.ret rr74, h70)))
| .ex0 _ => none
| .ex1 _ => none))))))) else (some (.done (.ex0 y61, h63))))
noncomputable def slices_symMergeCmpFunc_int.step (T : Table) (rec : SV → Int → Int → Int → V → H → Option ((Unit) × H)) (a0 : SV) (a1 : Int) (a2 : Int) (a3 : Int) (a4 : V) (h : H) : Option ((Unit) × H) :=
(bif (decide ((IntKind.wrap .i64 (a2 - a1)) = 1)) then ((iter FUEL (slices_symMergeCmpFunc_int.loop1 T a0 a1 a4) ((a2, a3), h)).bind fun (fl16, h15) => match fl16 with
| .next _ => none
| .ret rr17 => (some (rr17, h15))
| .ex0 y18 =>
((iter FUEL (slices_symMergeCmpFunc_int.loop2 T a0 y18) (a1, h15)).bind fun (fl27, h26) => match fl27 with
| .next _ => none
| .ret rr28 => (some (rr28, h26))
| .ex0 _ =>
(some ((), h26))
| .ex1 _ => none)
| .ex1 _ => none) else (bif (decide ((IntKind.wrap .i64 (a3 - a2)) = 1)) then ((iter FUEL (slices_symMergeCmpFunc_int.loop3 T a0 a2 a4) ((a1, a2), h)).bind fun (fl44, h43) => match fl44 with
| .next _ => none
| .ret rr45 => (some (rr45, h43))
| .ex0 y46 =>
((iter FUEL (slices_symMergeCmpFunc_int.loop4 T a0 y46) (a2, h43)).bind fun (fl55, h54) => match fl55 with
| .next _ => none
| .ret rr56 => (some (rr56, h54))
| .ex0 _ =>
(some ((), h54))
| .ex1 _ => none)
| .ex1 _ => none) else ((bif (decide ((IntKind.wrap .i64 ((Int.fdiv (IntKind.wrap .u64 ((IntKind.wrap .i64 (a1 + a3)))) (2 ^ (min (Int.toNat 1) (IntKind.bits .u64)))))) < a2)) then (some (.next ((IntKind.wrap .i64 ((IntKind.wrap .i64 ((IntKind.wrap .i64 ((Int.fdiv (IntKind.wrap .u64 ((IntKind.wrap .i64 (a1 + a3)))) (2 ^ (min (Int.toNat 1) (IntKind.bits .u64)))))) + a2)) - a3)), (IntKind.wrap .i64 ((Int.fdiv (IntKind.wrap .u64 ((IntKind.wrap .i64 (a1 + a3)))) (2 ^ (min (Int.toNat 1) (IntKind.bits .u64))))))), h)) else (some (.next (a1, a2), h)) : Option (Flow (Int × Int) (Unit) × H)).bind fun (fl58, h57) => match fl58 with
| .next (y59, y60) =>
((iter FUEL (slices_symMergeCmpFunc_int.loop5 T a0 a1 a2 a3 a4) ((y59, y60), h57)).bind fun (fl76, h75) => match fl76 with
| .next _ => none
| .ret rr77 => (some (rr77, h75))
| .ex0 y78 =>
(((bif (decide (y78 < a2)) then (some ((decide (a2 < (IntKind.wrap .i64 ((IntKind.wrap .i64 ((IntKind.wrap .i64 ((Int.fdiv (IntKind.wrap .u64 ((IntKind.wrap .i64 (a1 + a3)))) (2 ^ (min (Int.toNat 1) (IntKind.bits .u64)))))) + a2)) - y78)))), h75)) else (some (false, h75)))).bind fun (y79, h80) =>
((bif y79 then ((slices_rotateCmpFunc_int (slices_symMergeCmpFunc_int.tb T) a0 y78 a2 (IntKind.wrap .i64 ((IntKind.wrap .i64 ((IntKind.wrap .i64 ((Int.fdiv (IntKind.wrap .u64 ((IntKind.wrap .i64 (a1 + a3)))) (2 ^ (min (Int.toNat 1) (IntKind.bits .u64)))))) + a2)) - y78)) a4 h80).bind fun (_, h81) =>
(some (.next (), h81))) else (some (.next (), h80)) : Option (Flow (Unit) (Unit) × H)).bind fun (fl83, h82) => match fl83 with
| .next _ =>
(((bif (decide (a1 < y78)) then (some ((decide (y78 < (IntKind.wrap .i64 ((Int.fdiv (IntKind.wrap .u64 ((IntKind.wrap .i64 (a1 + a3)))) (2 ^ (min (Int.toNat 1) (IntKind.bits .u64)))))))), h82)) else (some (false, h82)))).bind fun (y84, h85) =>
((bif y84 then ((rec a0 a1 y78 (IntKind.wrap .i64 ((Int.fdiv (IntKind.wrap .u64 ((IntKind.wrap .i64 (a1 + a3)))) (2 ^ (min (Int.toNat 1) (IntKind.bits .u64)))))) a4 h85).bind fun (_, h86) =>
(some (.next (), h86))) else (some (.next (), h85)) : Option (Flow (Unit) (Unit) × H)).bind fun (fl88, h87) => match fl88 with
| .next _ =>
(((bif (decide ((IntKind.wrap .i64 ((Int.fdiv (IntKind.wrap .u64 ((IntKind.wrap .i64 (a1 + a3)))) (2 ^ (min (Int.toNat 1) (IntKind.bits .u64)))))) < (IntKind.wrap .i64 ((IntKind.wrap .i64 ((IntKind.wrap .i64 ((Int.fdiv (IntKind.wrap .u64 ((IntKind.wrap .i64 (a1 + a3)))) (2 ^ (min (Int.toNat 1) (IntKind.bits .u64)))))) + a2)) - y78)))) then (some ((decide ((IntKind.wrap .i64 ((IntKind.wrap .i64 ((IntKind.wrap .i64 ((Int.fdiv (IntKind.wrap .u64 ((IntKind.wrap .i64 (a1 + a3)))) (2 ^ (min (Int.toNat 1) (IntKind.bits .u64)))))) + a2)) - y78)) < a3)), h87)) else (some (false, h87)))).bind fun (y89, h90) =>
((bif y89 then ((rec a0 (IntKind.wrap .i64 ((Int.fdiv (IntKind.wrap .u64 ((IntKind.wrap .i64 (a1 + a3)))) (2 ^ (min (Int.toNat 1) (IntKind.bits .u64)))))) (IntKind.wrap .i64 ((IntKind.wrap .i64 ((IntKind.wrap .i64 ((Int.fdiv (IntKind.wrap .u64 ((IntKind.wrap .i64 (a1 + a3)))) (2 ^ (min (Int.toNat 1) (IntKind.bits .u64)))))) + a2)) - y78)) a3 a4 h90).bind fun (_, h91) =>
(some (.next (), h91))) else (some (.next (), h90)) : Option (Flow (Unit) (Unit) × H)).bind fun (fl93, h92) => match fl93 with
| .next _ =>
(some ((), h92))
| .ret rr94 => (some (rr94, h92))
| .ex0 _ => none
| .ex1 _ => none))
| .ret rr95 => (some (rr95, h87))
| .ex0 _ => none
| .ex1 _ => none))
| .ret rr96 => (some (rr96, h82))
| .ex0 _ => none
| .ex1 _ => none))
| .ex1 _ => none)
| .ret rr97 => (some (rr97, h57))
| .ex0 _ => none
| .ex1 _ => none)))
noncomputable def slices_symMergeCmpFunc_int.lev (T : Table) (n : Nat) : SV → Int → Int → Int → V → H → Option ((Unit) × H) := Nat.rec (fun _a0 _a1 _a2 _a3 _a4 _ => none) (fun _ r => slices_symMergeCmpFunc_int.step T r) n
noncomputable def slices_symMergeCmpFunc_int (T : Table) (a0 : SV) (a1 : Int) (a2 : Int) (a3 : Int) (a4 : V) (h : H) : Option ((Unit) × H) := slices_symMergeCmpFunc_int.lev T 40 a0 a1 a2 a3 a4 h
def slices_symMergeCmpFunc_int.A : Ann := { lits := [], conds := [(50, [10, 11], [.leaf (.int .i64), .leaf (.int .i64)], none, none), (103, [14, 15], [.leaf (.int .i64), .leaf (.int .i64)], none, none), (140, [20, 21], [.leaf (.int .i64), .leaf (.int .i64)], none, none), (171, [20, 21], [.leaf (.int .i64), .leaf (.int .i64)], none, none), (185, [], [], none, none), (199, [], [], none, none), (213, [], [], none, none)], loops := [(3, [10, 11], [.leaf (.int .i64), .leaf (.int .i64)], [10], [.leaf (.int .i64)], some 0, none), (9, [13], [.leaf (.int .i64)], [], [], some 2, none), (15, [14, 15], [.leaf (.int .i64), .leaf (.int .i64)], [14], [.leaf (.int .i64)], some 4, none), (21, [17], [.leaf (.int .i64)], [], [], some 6, none), (33, [20, 21], [.leaf (.int .i64), .leaf (.int .i64)], [20], [.leaf (.int .i64)], some 8, none)], regs := [(39, [185], [.leaf .bool]), (41, [199], [.leaf .bool]), (43, [213], [.leaf .bool])] }
noncomputable def slices_symMergeCmpFunc_int.tc (T : Table) : Table := tab [(104, slices_rotateCmpFunc_int.e (slices_symMergeCmpFunc_int.tb T))] [] (slices_symMergeCmpFunc_int.tb T)
theorem slices_symMergeCmpFunc_int.tcok (T : Table) (hT : TabOK Try.prog T) : TabOK Try.prog (slices_symMergeCmpFunc_int.tc T) := TabOK.tab (slices_symMergeCmpFunc_int.tbok T hT) (all_cons (slices_rotateCmpFunc_int.ok _ (slices_symMergeCmpFunc_int.tbok T hT)) (all_nil _)) (all_nil _)
noncomputable def slices_symMergeCmpFunc_int.el (T : Table) (n : Nat) : Entry := mkX [.leaf .slice, .leaf (.int .i64), .leaf (.int .i64), .leaf (.int .i64), .leaf .dyn] (.many []) fun x h => slices_symMergeCmpFunc_int.lev T n x.1 x.2.1 x.2.2.1 x.2.2.2.1 x.2.2.2.2 h
noncomputable def slices_symMergeCmpFunc_int.tr (T : Table) (n : Nat) : Table := tab [(96, slices_symMergeCmpFunc_int.el T n)] [] (slices_symMergeCmpFunc_int.tc T)
theorem slices_symMergeCmpFunc_int.eq (T : Table) : ∀ (n : Nat) (x : TT [.leaf .slice, .leaf (.int .i64), .leaf (.int .i64), .leaf (.int .i64), .leaf .dyn]) (h : H), evalFn Try.prog (slices_symMergeCmpFunc_int.tr T n) slices_symMergeCmpFunc_int.A Try.f96 (.many []) (TT.un [.leaf .slice, .leaf (.int .i64), .leaf (.int .i64), .leaf (.int .i64), .leaf .dyn] x) h = slices_symMergeCmpFunc_int.lev T (n + 1) x.1 x.2.1 x.2.2.1 x.2.2.2.1 x.2.2.2.2 h := by
  intro n x h
  kernel_rfl
theorem slices_symMergeCmpFunc_int.okl (T : Table) (hT : TabOK Try.prog T) (n : Nat) : EntryOK Try.prog 96 (slices_symMergeCmpFunc_int.el T n) := by
  induction n with
  | zero => exact mkX_none
  | succ n ih => exact mkX_ok (TabOK.tab (slices_symMergeCmpFunc_int.tcok T hT) (all_cons ih (all_nil _)) (all_nil _)) Try.mixed Try.func96 (by kernel_rfl) (slices_symMergeCmpFunc_int.eq T n)
noncomputable def slices_symMergeCmpFunc_int.e (T : Table) : Entry := slices_symMergeCmpFunc_int.el T 40
theorem slices_symMergeCmpFunc_int.ok (T : Table) (hT : TabOK Try.prog T) : EntryOK Try.prog 96 (slices_symMergeCmpFunc_int.e T) := slices_symMergeCmpFunc_int.okl T hT 40

/-! ### slices.stableCmpFunc[int]: function 83 -/
noncomputable def slices_stableCmpFunc_int.tb (T : Table) : Table := tab [] [] T
theorem slices_stableCmpFunc_int.tbok (T : Table) (hT : TabOK Try.prog T) : TabOK Try.prog (slices_stableCmpFunc_int.tb T) := TabOK.tab (hT) (all_nil _) (all_nil _)
noncomputable def slices_stableCmpFunc_int.loop1 (T : Table) (a0 : SV) (a1 : Int) (a2 : V) : (Int × Int) × H → Option (Stp ((Int × Int) × H) (Flow (Int) (Unit) × H)) := fun ((y1, y2), h3) =>
(bif (decide (y2 ≤ a1)) then ((slices_insertionSortCmpFunc_int (slices_stableCmpFunc_int.tb T) a0 y1 y2 a2 h3).bind fun (_, h4) =>
(some (.more ((y2, (IntKind.wrap .i64 (y2 + 20))), h4)))) else (some (.done (.ex0 y1, h3))))
noncomputable def slices_stableCmpFunc_int.loop2 (T : Table) (a0 : SV) (a1 : Int) (a2 : V) (y10 : Int) : (Int × Int) × H → Option (Stp ((Int × Int) × H) (Flow (Int) (Unit) × H)) := fun ((y12, y13), h14) =>
(bif (decide (y13 ≤ a1)) then ((slices_symMergeCmpFunc_int (slices_stableCmpFunc_int.tb T) a0 y12 (IntKind.wrap .i64 (y12 + y10)) y13 a2 h14).bind fun (_, h15) =>
(some (.more ((y13, (IntKind.wrap .i64 (y13 + (IntKind.wrap .i64 (2 * y10))))), h15)))) else (some (.done (.ex0 y12, h14))))
noncomputable def slices_stableCmpFunc_int.loop3 (T : Table) (a0 : SV) (a1 : Int) (a2 : V) : (Int) × H → Option (Stp ((Int) × H) (Flow (Unit) (Unit) × H)) := fun (y10, h11) =>
(bif (decide (y10 < a1)) then ((iter FUEL (slices_stableCmpFunc_int.loop2 T a0 a1 a2 y10) ((0, (IntKind.wrap .i64 (2 * y10))), h11)).bind fun (fl17, h16) => match fl17 with
| .next _ => none
| .ret rr18 => (some (.done (.ret rr18, h16)))
| .ex0 y19 =>
((bif (decide ((IntKind.wrap .i64 (y19 + y10)) < a1)) then ((slices_symMergeCmpFunc_int (slices_stableCmpFunc_int.tb T) a0 y19 (IntKind.wrap .i64 (y19 + y10)) a1 a2 h16).bind fun (_, h20) =>
(some (.next (), h20))) else (some (.next (), h16)) : Option (Flow (Unit) (Unit) × H)).bind fun (fl22, h21) => match fl22 with
| .next _ =>
(some (.more ((IntKind.wrap .i64 (y10 * 2)), h21)))
| .ret rr23 => (some (.done (.ret rr23, h21)))
| .ex0 _ => none
| .ex1 _ => none)
| .ex1 _ => none) else (some (.done (.ex0 (), h11))))
noncomputable def slices_stableCmpFunc_int (T : Table) (a0 : SV) (a1 : Int) (a2 : V) (h : H) : Option ((Unit) × H) :=
((iter FUEL (slices_stableCmpFunc_int.loop1 T a0 a1 a2) ((0, 20), h)).bind fun (fl6, h5) => match fl6 with
| .next _ => none
| .ret rr7 => (some (rr7, h5))
| .ex0 y8 =>
((slices_insertionSortCmpFunc_int (slices_stableCmpFunc_int.tb T) a0 y8 a1 a2 h5).bind fun (_, h9) =>
((iter FUEL (slices_stableCmpFunc_int.loop3 T a0 a1 a2) (20, h9)).bind fun (fl25, h24) => match fl25 with
| .next _ => none
| .ret rr26 => (some (rr26, h24))
| .ex0 _ =>
(some ((), h24))
| .ex1 _ => none))
| .ex1 _ => none)
def slices_stableCmpFunc_int.A : Ann := { lits := [], conds := [(54, [], [], none, none)], loops := [(2, [7, 8], [.leaf (.int .i64), .leaf (.int .i64)], [7], [.leaf (.int .i64)], some 0, none), (9, [7, 8], [.leaf (.int .i64), .leaf (.int .i64)], [7], [.leaf (.int .i64)], some 4, none), (7, [6], [.leaf (.int .i64)], [], [], some 2, none)], regs := [] }
noncomputable def slices_stableCmpFunc_int.tc (T : Table) : Table := tab [(95, slices_insertionSortCmpFunc_int.e (slices_stableCmpFunc_int.tb T)), (96, slices_symMergeCmpFunc_int.e (slices_stableCmpFunc_int.tb T))] [] (slices_stableCmpFunc_int.tb T)
theorem slices_stableCmpFunc_int.tcok (T : Table) (hT : TabOK Try.prog T) : TabOK Try.prog (slices_stableCmpFunc_int.tc T) := TabOK.tab (slices_stableCmpFunc_int.tbok T hT) (all_cons (slices_insertionSortCmpFunc_int.ok _ (slices_stableCmpFunc_int.tbok T hT)) (all_cons (slices_symMergeCmpFunc_int.ok _ (slices_stableCmpFunc_int.tbok T hT)) (all_nil _))) (all_nil _)
theorem slices_stableCmpFunc_int.eq (T : Table) : ∀ (x : TT [.leaf .slice, .leaf (.int .i64), .leaf .dyn]) (h : H), evalFn Try.prog (slices_stableCmpFunc_int.tc T) slices_stableCmpFunc_int.A Try.f83 (.many []) (TT.un [.leaf .slice, .leaf (.int .i64), .leaf .dyn] x) h = slices_stableCmpFunc_int T x.1 x.2.1 x.2.2 h := by
  intro x h
  kernel_rfl
noncomputable def slices_stableCmpFunc_int.e (T : Table) : Entry := mkX [.leaf .slice, .leaf (.int .i64), .leaf .dyn] (.many []) fun x h => slices_stableCmpFunc_int T x.1 x.2.1 x.2.2 h
theorem slices_stableCmpFunc_int.ok (T : Table) (hT : TabOK Try.prog T) : EntryOK Try.prog 83 (slices_stableCmpFunc_int.e T) := mkX_ok (slices_stableCmpFunc_int.tcok T hT) Try.mixed Try.func83 (by kernel_rfl) (slices_stableCmpFunc_int.eq T)
end Go.Proofs.Ytbcpdecgfdlaaaa
