/- The functions of the program as Lean functions, each with the equation by which the evaluator is that function. Written by a program of this session (evdrive.py). Conditions: none. -/
import Derived.Test.YtaepkinihaipkaaProg
import Derived.Test.YtaepkinihaipkaaEvSpec
import Derived.Test.YtaepkinihaipkaaFn1
namespace Go.Proofs.Ytaepkinihaipkaa
open Go Go.Proofs.Ytaepkinihaipkaa.Ev
set_option maxRecDepth 100000
set_option linter.unusedVariables false
/-! ### slices.SortStableFunc[[]int,int]: function 52 -/
noncomputable def slices_SortStableFunc_int_int.tb (T : Table) : Table := tab [] [] T
theorem slices_SortStableFunc_int_int.tbok (T : Table) (hT : TabOK Try.prog T) : TabOK Try.prog (slices_SortStableFunc_int_int.tb T) := TabOK.tab (hT) (all_nil _) (all_nil _)
noncomputable def slices_SortStableFunc_int_int (T : Table) (a0 : SV) (a1 : V) (h : H) : Option ((Unit) × H) :=
((slices_stableCmpFunc_int (slices_SortStableFunc_int_int.tb T) a0 ((a0.len : Nat) : Int) a1 h).bind fun (_, h1) =>
(some ((), h1)))
def slices_SortStableFunc_int_int.A : Ann := { lits := [], conds := [], loops := [], regs := [] }
noncomputable def slices_SortStableFunc_int_int.tc (T : Table) : Table := tab [(67, slices_stableCmpFunc_int.e (slices_SortStableFunc_int_int.tb T))] [] (slices_SortStableFunc_int_int.tb T)
theorem slices_SortStableFunc_int_int.tcok (T : Table) (hT : TabOK Try.prog T) : TabOK Try.prog (slices_SortStableFunc_int_int.tc T) := TabOK.tab (slices_SortStableFunc_int_int.tbok T hT) (all_cons (slices_stableCmpFunc_int.ok _ (slices_SortStableFunc_int_int.tbok T hT)) (all_nil _)) (all_nil _)
theorem slices_SortStableFunc_int_int.eq (T : Table) : ∀ (x : TT [.leaf .slice, .leaf .dyn]) (h : H), evalFn Try.prog (slices_SortStableFunc_int_int.tc T) slices_SortStableFunc_int_int.A Try.f52 (.many []) (TT.un [.leaf .slice, .leaf .dyn] x) h = slices_SortStableFunc_int_int T x.1 x.2 h := by
  intro x h
  kernel_rfl
noncomputable def slices_SortStableFunc_int_int.e (T : Table) : Entry := mkX [.leaf .slice, .leaf .dyn] (.many []) fun x h => slices_SortStableFunc_int_int T x.1 x.2 h
theorem slices_SortStableFunc_int_int.ok (T : Table) (hT : TabOK Try.prog T) : EntryOK Try.prog 52 (slices_SortStableFunc_int_int.e T) := mkX_ok (slices_SortStableFunc_int_int.tcok T hT) Try.mixed Try.func52 (by kernel_rfl) (slices_SortStableFunc_int_int.eq T)

/-! ### cmp.isNaN[int]: function 68 -/
noncomputable def cmp_isNaN_int.tb : Table := tab [] [] Table.nil
theorem cmp_isNaN_int.tbok : TabOK Try.prog (cmp_isNaN_int.tb) := TabOK.tab (TabOK.nil Try.prog) (all_nil _) (all_nil _)
noncomputable def cmp_isNaN_int (a0 : Int) (h : H) : Option ((Bool) × H) :=
(some ((!(decide (a0 = a0))), h))
def cmp_isNaN_int.A : Ann := { lits := [], conds := [], loops := [], regs := [] }
theorem cmp_isNaN_int.eq : ∀ (x : TT [.leaf (.int .i64)]) (h : H), evalFn Try.prog (cmp_isNaN_int.tb) cmp_isNaN_int.A Try.f68 (.one (.leaf .bool)) (TT.un [.leaf (.int .i64)] x) h = cmp_isNaN_int x h := by
  intro x h
  kernel_rfl
noncomputable def cmp_isNaN_int.e : Entry := mkX [.leaf (.int .i64)] (.one (.leaf .bool)) fun x h => cmp_isNaN_int x h
theorem cmp_isNaN_int.ok : EntryOK Try.prog 68 (cmp_isNaN_int.e) := mkX_ok (cmp_isNaN_int.tbok) Try.mixed Try.func68 (by kernel_rfl) (cmp_isNaN_int.eq)
noncomputable def cmp_isNaN_intP (a0 : Int) : Option (Bool) := (cmp_isNaN_int a0 H.empty).bind fun p => rdRes false p.2 (.one (.leaf .bool)) (Res.un (.one (.leaf .bool)) p.1)
theorem cmp_isNaN_intP.eq : ∀ x : TT [.leaf (.int .i64)], ((evalFn Try.prog (cmp_isNaN_int.tb) cmp_isNaN_int.A Try.f68 (.one (.leaf .bool)) (TT.lo false [.leaf (.int .i64)] x) H.empty).bind fun p => rdRes false p.2 (.one (.leaf .bool)) (Res.un (.one (.leaf .bool)) p.1)) = cmp_isNaN_intP x := by
  intro x
  rw [show TT.lo false [.leaf (.int .i64)] x = TT.un [.leaf (.int .i64)] (x) from rfl, cmp_isNaN_int.eq]
  rfl
noncomputable def cmp_isNaN_intP.e : Entry := mkP [.leaf (.int .i64)] (.one (.leaf .bool)) fun x => cmp_isNaN_intP x
theorem cmp_isNaN_intP.ok : EntryOK Try.prog 68 (cmp_isNaN_intP.e) := mkP_ok (cmp_isNaN_int.tbok) Try.mixed Try.func68 (by kernel_rfl) cmp_isNaN_intP.eq

/-! ### cmp.Compare[int]: function 54 -/
noncomputable def cmp_Compare_int.tb : Table := tab [(68, cmp_isNaN_intP.e)] [] Table.nil
theorem cmp_Compare_int.tbok : TabOK Try.prog (cmp_Compare_int.tb) := TabOK.tab (TabOK.nil Try.prog) (all_cons cmp_isNaN_intP.ok (all_nil _)) (all_nil _)
noncomputable def cmp_Compare_int (a0 : Int) (a1 : Int) (h : H) : Option ((Int) × H) :=
((cmp_isNaN_intP a0).bind fun r1 =>
((cmp_isNaN_intP a1).bind fun r2 =>
(bif r1 then (bif r2 then (some (0, h)) else (some ((-1), h))) else (bif r2 then (some (1, h)) else (bif (decide (a0 < a1)) then (some ((-1), h)) else (bif (decide (a1 < a0)) then (some (1, h)) else (some (0, h))))))))
def cmp_Compare_int.A : Ann := { lits := [], conds := [], loops := [], regs := [] }
theorem cmp_Compare_int.eq : ∀ (x : TT [.leaf (.int .i64), .leaf (.int .i64)]) (h : H), evalFn Try.prog (cmp_Compare_int.tb) cmp_Compare_int.A Try.f54 (.one (.leaf (.int .i64))) (TT.un [.leaf (.int .i64), .leaf (.int .i64)] x) h = cmp_Compare_int x.1 x.2 h := by
  intro x h
  kernel_rfl
noncomputable def cmp_Compare_int.e : Entry := mkX [.leaf (.int .i64), .leaf (.int .i64)] (.one (.leaf (.int .i64))) fun x h => cmp_Compare_int x.1 x.2 h
theorem cmp_Compare_int.ok : EntryOK Try.prog 54 (cmp_Compare_int.e) := mkX_ok (cmp_Compare_int.tbok) Try.mixed Try.func54 (by kernel_rfl) (cmp_Compare_int.eq)
noncomputable def cmp_Compare_intP (a0 : Int) (a1 : Int) : Option (Int) := (cmp_Compare_int a0 a1 H.empty).bind fun p => rdRes false p.2 (.one (.leaf (.int .i64))) (Res.un (.one (.leaf (.int .i64))) p.1)
theorem cmp_Compare_intP.eq : ∀ x : TT [.leaf (.int .i64), .leaf (.int .i64)], ((evalFn Try.prog (cmp_Compare_int.tb) cmp_Compare_int.A Try.f54 (.one (.leaf (.int .i64))) (TT.lo false [.leaf (.int .i64), .leaf (.int .i64)] x) H.empty).bind fun p => rdRes false p.2 (.one (.leaf (.int .i64))) (Res.un (.one (.leaf (.int .i64))) p.1)) = cmp_Compare_intP x.1 x.2 := by
  intro x
  rw [show TT.lo false [.leaf (.int .i64), .leaf (.int .i64)] x = TT.un [.leaf (.int .i64), .leaf (.int .i64)] (x.1, x.2) from rfl, cmp_Compare_int.eq]
  rfl
noncomputable def cmp_Compare_intP.e : Entry := mkP [.leaf (.int .i64), .leaf (.int .i64)] (.one (.leaf (.int .i64))) fun x => cmp_Compare_intP x.1 x.2
theorem cmp_Compare_intP.ok : EntryOK Try.prog 54 (cmp_Compare_intP.e) := mkP_ok (cmp_Compare_int.tbok) Try.mixed Try.func54 (by kernel_rfl) cmp_Compare_intP.eq

/-! ### spile/proportion.Divide$1: function 53 -/
noncomputable def proportion_Divide_1.tb : Table := tab [(54, cmp_Compare_intP.e)] [] Table.nil
theorem proportion_Divide_1.tbok : TabOK Try.prog (proportion_Divide_1.tb) := TabOK.tab (TabOK.nil Try.prog) (all_cons cmp_Compare_intP.ok (all_nil _)) (all_nil _)
noncomputable def proportion_Divide_1 (a0 : Int) (a1 : Int) (a2 : V) (h : H) : Option ((Int) × H) :=
(let h1 : H := H.reserve h 0
((rdT (.leaf .slice) h1 a2).bind fun x2 =>
(guardO (0 ≤ a1 ∧ a1 < ((x2.len : Nat) : Int)) ((rdT (.leaf (.int .i64)) h1 (V.add x2.a (Int.toNat a1 * 1))).bind fun x3 =>
((rdT (.leaf .slice) h1 a2).bind fun x4 =>
(guardO (0 ≤ a0 ∧ a0 < ((x4.len : Nat) : Int)) ((rdT (.leaf (.int .i64)) h1 (V.add x4.a (Int.toNat a0 * 1))).bind fun x5 =>
((cmp_Compare_intP x3 x5).bind fun r6 =>
(some (r6, h1))))))))))
def proportion_Divide_1.A : Ann := { lits := [], conds := [], loops := [], regs := [] }
theorem proportion_Divide_1.eq : ∀ (x : TT [.leaf (.int .i64), .leaf (.int .i64), .leaf .ptr]) (h : H), evalFn Try.prog (proportion_Divide_1.tb) proportion_Divide_1.A Try.f53 (.one (.leaf (.int .i64))) (TT.un [.leaf (.int .i64), .leaf (.int .i64), .leaf .ptr] x) h = proportion_Divide_1 x.1 x.2.1 x.2.2 h := by
  intro x h
  kernel_rfl
noncomputable def proportion_Divide_1.e : Entry := mkX [.leaf (.int .i64), .leaf (.int .i64), .leaf .ptr] (.one (.leaf (.int .i64))) fun x h => proportion_Divide_1 x.1 x.2.1 x.2.2 h
theorem proportion_Divide_1.ok : EntryOK Try.prog 53 (proportion_Divide_1.e) := mkX_ok (proportion_Divide_1.tbok) Try.mixed Try.func53 (by kernel_rfl) (proportion_Divide_1.eq)

/-! ### spile/proportion.Divide: function 35 -/
noncomputable def proportion_Divide.tb : Table := tab [(49, proportion_dividedP.e), (51, proportion_weighP.e)] [(53, proportion_Divide_1.e)] Table.nil
theorem proportion_Divide.tbok : TabOK Try.prog (proportion_Divide.tb) := TabOK.tab (TabOK.nil Try.prog) (all_cons proportion_dividedP.ok (all_cons proportion_weighP.ok (all_nil _))) (all_cons proportion_Divide_1.ok (all_nil _))
noncomputable def proportion_Divide.loop1 (h : H) (a0 : Int) (a1 : SV) (r1 : Int) : (Int × Int) × H → Option (Stp ((Int × Int) × H) (Flow (Int) (SV × Int) × H)) := fun ((y10, y11), h12) =>
(bif (decide (y11 < ((a1.len : Nat) : Int))) then (guardO (0 ≤ y11 ∧ y11 < ((a1.len : Nat) : Int)) ((rdT (.leaf (.int .i64)) h12 (V.add a1.a (Int.toNat y11 * 1))).bind fun x13 =>
(let h14 : H := H.reserve h12 0
((rdT (.leaf .slice) h14 (.hp (h.next + 3) 1 0)).bind fun x15 =>
((proportion_dividedP a0 x13 r1).bind fun (r16, r17, r18) =>
(guardO (0 ≤ y11 ∧ y11 < (((Int.toNat ((a1.len : Nat) : Int)) : Nat) : Int)) ((H.wrs h14 (.hp h.next (Int.toNat ((a1.len : Nat) : Int) * 1) (0 + (Int.toNat y11 * 1))) [.int .i64 r16]).bind fun h19 =>
(guardO (0 ≤ y11 ∧ y11 < ((x15.len : Nat) : Int)) ((H.wrs h19 (V.add x15.a (Int.toNat y11 * 1)) [.int .i64 r17]).bind fun h20 =>
(guardO (apartA (.hp (h.next + 3) 1 0 : V) (.hp h.next (Int.toNat ((a1.len : Nat) : Int) * 1) (0 + (Int.toNat y11 * 1)) : V) = true) (guardO (0 ≤ y11 ∧ y11 < (((Int.toNat ((a1.len : Nat) : Int)) : Nat) : Int)) ((H.wrs h20 (.hp (h.next + 2) (Int.toNat ((a1.len : Nat) : Int) * 1) (0 + (Int.toNat y11 * 1))) [.int .i64 y11]).bind fun h21 =>
(guardO (0 ≤ y11 ∧ y11 < (((Int.toNat ((a1.len : Nat) : Int)) : Nat) : Int)) ((rdT (.leaf (.int .i64)) h21 (.hp h.next (Int.toNat ((a1.len : Nat) : Int) * 1) (0 + (Int.toNat y11 * 1)))).bind fun x22 =>
(some (.more (((IntKind.wrap .i64 (y10 - x22)), (IntKind.wrap .i64 (y11 + 1))), h21))))))))))))))))) else (some (.done (.ex0 y10, h12))))
noncomputable def proportion_Divide.loop2 (h : H) (a1 : SV) (y26 : Int) : (Int) × H → Option (Stp ((Int) × H) (Flow (Unit) (SV × Int) × H)) := fun (y28, h29) =>
(bif (decide (y28 < y26)) then (guardO (0 ≤ y28 ∧ y28 < (((Int.toNat ((a1.len : Nat) : Int)) : Nat) : Int)) ((rdT (.leaf (.int .i64)) h29 (.hp (h.next + 2) (Int.toNat ((a1.len : Nat) : Int) * 1) (0 + (Int.toNat y28 * 1)))).bind fun x30 =>
(guardO (0 ≤ x30 ∧ x30 < (((Int.toNat ((a1.len : Nat) : Int)) : Nat) : Int)) ((rdT (.leaf (.int .i64)) h29 (.hp h.next (Int.toNat ((a1.len : Nat) : Int) * 1) (0 + (Int.toNat x30 * 1)))).bind fun x31 =>
(guardO (0 ≤ x30 ∧ x30 < (((Int.toNat ((a1.len : Nat) : Int)) : Nat) : Int)) ((H.wrs h29 (.hp h.next (Int.toNat ((a1.len : Nat) : Int) * 1) (0 + (Int.toNat x30 * 1))) [.int .i64 (IntKind.wrap .i64 (x31 + 1))]).bind fun h32 =>
(some (.more ((IntKind.wrap .i64 (y28 + 1)), h32))))))))) else (some (.done (.ex0 (), h29))))
noncomputable def proportion_Divide (a0 : Int) (a1 : SV) (h : H) : Option ((SV × Int) × H) :=
((rdRow true h [.int .i64] a1).bind fun s3 =>
((proportion_weighP a0 s3).bind fun (r1, r2) =>
(bif (!(decide (r2 = 0))) then (some ((⟨.nil, 0, 0, false⟩, r2), h)) else (let h4 : H := H.reserve h 4
(guardO (0 ≤ ((a1.len : Nat) : Int) ∧ ((a1.len : Nat) : Int) ≤ ((a1.len : Nat) : Int) ∧ ((a1.len : Nat) : Int) ≤ roomCells ∧ 8 ≤ 2 ^ 11 ∧ 1 = 1) (let h5 : H := H.put h4 h.next (.own (repeatCells [.int .i64 0] (Int.toNat ((a1.len : Nat) : Int))) 1)
(guardO (0 ≤ ((a1.len : Nat) : Int) ∧ ((a1.len : Nat) : Int) ≤ ((a1.len : Nat) : Int) ∧ ((a1.len : Nat) : Int) ≤ roomCells ∧ 8 ≤ 2 ^ 11 ∧ 1 = 1) (let h6 : H := H.put h5 (h.next + 1) (.own (repeatCells [.int .i64 0] (Int.toNat ((a1.len : Nat) : Int))) 1)
(guardO (0 ≤ ((a1.len : Nat) : Int) ∧ ((a1.len : Nat) : Int) ≤ ((a1.len : Nat) : Int) ∧ ((a1.len : Nat) : Int) ≤ roomCells ∧ 8 ≤ 2 ^ 11 ∧ 1 = 1) (let h7 : H := H.put h6 (h.next + 2) (.own (repeatCells [.int .i64 0] (Int.toNat ((a1.len : Nat) : Int))) 1)
(let h8 : H := H.put h7 (h.next + 3) (.own [.slice .nil 0 0 false] 1)
((H.wrs h8 (.hp (h.next + 3) 1 0) [.slice (.hp (h.next + 1) (Int.toNat ((a1.len : Nat) : Int) * 1) 0) (Int.toNat ((a1.len : Nat) : Int)) (Int.toNat ((a1.len : Nat) : Int)) true]).bind fun h9 =>
(guardO (apartA (.hp (h.next + 2) 0 0 : V) (.hp (h.next + 3) 1 0 : V) = true) ((iter FUEL (proportion_Divide.loop1 h a0 a1 r1) ((a0, 0), h9)).bind fun (fl24, h23) => match fl24 with
| .next _ => none
| .ret rr25 => (some (rr25, h23))
| .ex0 y26 =>
((slices_SortStableFunc_int_int proportion_Divide.tb ⟨.hp (h.next + 2) (Int.toNat ((a1.len : Nat) : Int) * 1) 0, (Int.toNat ((a1.len : Nat) : Int)), (Int.toNat ((a1.len : Nat) : Int)), true⟩ (.func 53 [.hp (h.next + 3) 1 0] : V) h23).bind fun (_, h27) =>
((iter FUEL (proportion_Divide.loop2 h a1 y26) (0, h27)).bind fun (fl34, h33) => match fl34 with
| .next _ => none
| .ret rr35 => (some (rr35, h33))
| .ex0 _ =>
(some ((⟨.hp h.next (Int.toNat ((a1.len : Nat) : Int) * 1) 0, (Int.toNat ((a1.len : Nat) : Int)), (Int.toNat ((a1.len : Nat) : Int)), true⟩, 0), h33))
| .ex1 _ => none))
| .ex1 _ => none))))))))))))))
def proportion_Divide.A : Ann := { lits := [], conds := [], loops := [(7, [11, 36], [.leaf (.int .i64), .leaf (.int .i64)], [11], [.leaf (.int .i64)], some 0, none), (15, [70], [.leaf (.int .i64)], [], [], some 2, none)], regs := [] }
noncomputable def proportion_Divide.tc : Table := tab [(52, slices_SortStableFunc_int_int.e (proportion_Divide.tb))] [] (proportion_Divide.tb)
theorem proportion_Divide.tcok : TabOK Try.prog (proportion_Divide.tc) := TabOK.tab (proportion_Divide.tbok) (all_cons (slices_SortStableFunc_int_int.ok _ (proportion_Divide.tbok)) (all_nil _)) (all_nil _)
theorem proportion_Divide.eq : ∀ (x : TT [.leaf (.int .i64), .leaf .slice]) (h : H), evalFn Try.prog (proportion_Divide.tc) proportion_Divide.A Try.f35 (.many [.leaf .slice, .leaf (.int .i64)]) (TT.un [.leaf (.int .i64), .leaf .slice] x) h = proportion_Divide x.1 x.2 h := by
  intro x h
  kernel_rfl
noncomputable def proportion_Divide.e : Entry := mkX [.leaf (.int .i64), .leaf .slice] (.many [.leaf .slice, .leaf (.int .i64)]) fun x h => proportion_Divide x.1 x.2 h
theorem proportion_Divide.ok : EntryOK Try.prog 35 (proportion_Divide.e) := mkX_ok (proportion_Divide.tcok) Try.mixed Try.func35 (by kernel_rfl) (proportion_Divide.eq)
noncomputable def proportion_DivideP (a0 : Int) (a1 : (List (Int))) : Option ((List (Int)) × Int) := (proportion_Divide a0 (rowSV false [.int .i64] a1) H.empty).bind fun p => rdRes false p.2 (.many [.leaf (.row [.int .i64]), .leaf (.int .i64)]) (Res.un (.many [.leaf .slice, .leaf (.int .i64)]) p.1)
theorem proportion_DivideP.eq : ∀ x : TT [.leaf (.int .i64), .leaf (.row [.int .i64])], ((evalFn Try.prog (proportion_Divide.tc) proportion_Divide.A Try.f35 (.many [.leaf .slice, .leaf (.int .i64)]) (TT.lo false [.leaf (.int .i64), .leaf (.row [.int .i64])] x) H.empty).bind fun p => rdRes false p.2 (.many [.leaf (.row [.int .i64]), .leaf (.int .i64)]) (Res.un (.many [.leaf .slice, .leaf (.int .i64)]) p.1)) = proportion_DivideP x.1 x.2 := by
  intro x
  rw [show TT.lo false [.leaf (.int .i64), .leaf (.row [.int .i64])] x = TT.un [.leaf (.int .i64), .leaf .slice] (x.1, (rowSV false [.int .i64] x.2)) from rfl, proportion_Divide.eq]
  rfl
noncomputable def proportion_DivideP.e : Entry := mkP [.leaf (.int .i64), .leaf (.row [.int .i64])] (.many [.leaf (.row [.int .i64]), .leaf (.int .i64)]) fun x => proportion_DivideP x.1 x.2
theorem proportion_DivideP.ok : EntryOK Try.prog 35 (proportion_DivideP.e) := mkP_ok (proportion_Divide.tcok) Try.mixed Try.func35 (by kernel_rfl) proportion_DivideP.eq

/-! ### spile/mix.Divide: function 15 -/
noncomputable def mix_Divide.tb : Table := tab [(28, mix_plainP.e), (35, proportion_DivideP.e)] [] Table.nil
theorem mix_Divide.tbok : TabOK Try.prog (mix_Divide.tb) := TabOK.tab (TabOK.nil Try.prog) (all_cons mix_plainP.ok (all_cons proportion_DivideP.ok (all_nil _))) (all_nil _)
noncomputable def mix_Divide.loop1 (h1 : H) (r5 : List (Int)) (r10 : List (Int)) (r11 : Int) : (Int) × H → Option (Stp ((Int) × H) (Flow (Unit) (SV × Int) × H)) := fun (y13, h14) =>
(bif (decide (y13 < ((r5.length : Nat) : Int))) then (guardO (0 ≤ y13 ∧ y13 < ((r5.length : Nat) : Int)) ((rdT (.leaf (.int .i64)) h14 (V.add ((rowSV true [.int .i64] r5).a) (Int.toNat y13 * 1))).bind fun x15 =>
(guardO (0 ≤ y13 ∧ y13 < (((Int.toNat ((r5.length : Nat) : Int)) : Nat) : Int)) ((H.wrs h14 (.hp h1.next (Int.toNat ((r5.length : Nat) : Int) * 2) ((0 + (Int.toNat y13 * 2)) + 1)) [.int .i64 x15]).bind fun h16 =>
((bif (decide (r11 = 0)) then (guardO (0 ≤ y13 ∧ y13 < ((r10.length : Nat) : Int)) ((rdT (.leaf (.int .i64)) h16 (V.add ((rowSV true [.int .i64] r10).a) (Int.toNat y13 * 1))).bind fun x17 =>
(guardO (0 ≤ y13 ∧ y13 < (((Int.toNat ((r5.length : Nat) : Int)) : Nat) : Int)) ((H.wrs h16 (.hp h1.next (Int.toNat ((r5.length : Nat) : Int) * 2) (0 + (Int.toNat y13 * 2))) [.int .i64 x17]).bind fun h18 =>
(some (.next (), h18)))))) else (some (.next (), h16)) : Option (Flow (Unit) (SV × Int) × H)).bind fun (fl20, h19) => match fl20 with
| .next _ =>
(some (.more ((IntKind.wrap .i64 (y13 + 1)), h19)))
| .ret rr21 => (some (.done (.ret rr21, h19)))
| .ex0 _ => none
| .ex1 _ => none))))) else (some (.done (.ex0 (), h14))))
noncomputable def mix_Divide (a0 : (Int × Int)) (a1 : SV) (h : H) : Option ((SV × Int) × H) :=
(match a0 with
| (a0_0, a0_1) =>
(let h1 : H := H.new h [.int .i64 a0_0, .int .i64 a0_1] 2
((rdT (.agg [.int .i64, .int .i64]) h1 (.hp h.next 2 0)).bind fun (x2_0, x2_1) =>
((mix_plainP (x2_0, x2_1)).bind fun r3 =>
(bif (!r3) then (some ((⟨.nil, 0, 0, false⟩, 1), h1)) else ((rdT (.leaf (.int .i64)) h1 (.hp h.next 2 1)).bind fun x4 =>
((rdRow true h1 [.int .i64] a1).bind fun s7 =>
((proportion_DivideP x4 s7).bind fun (r5, r6) =>
(bif (!(decide (r6 = 0))) then (some ((⟨.nil, 0, 0, false⟩, r6), h1)) else (guardO (0 ≤ ((r5.length : Nat) : Int) ∧ ((r5.length : Nat) : Int) ≤ ((r5.length : Nat) : Int) ∧ ((r5.length : Nat) : Int) ≤ roomCells ∧ 16 ≤ 2 ^ 11 ∧ 2 = 2) (let h8 : H := H.new h1 (repeatCells [.int .i64 0, .int .i64 0] (Int.toNat ((r5.length : Nat) : Int))) 2
((rdT (.leaf (.int .i64)) h8 (.hp h.next 2 0)).bind fun x9 =>
((rdRow true h8 [.int .i64] (rowSV true [.int .i64] r5)).bind fun s12 =>
((proportion_DivideP x9 s12).bind fun (r10, r11) =>
((iter FUEL (mix_Divide.loop1 h1 r5 r10 r11) (0, h8)).bind fun (fl23, h22) => match fl23 with
| .next _ => none
| .ret rr24 => (some (rr24, h22))
| .ex0 _ =>
(some ((⟨.hp h1.next (Int.toNat ((r5.length : Nat) : Int) * 2) 0, (Int.toNat ((r5.length : Nat) : Int)), (Int.toNat ((r5.length : Nat) : Int)), true⟩, 0), h22))
| .ex1 _ => none)))))))))))))))
def mix_Divide.A : Ann := { lits := [], conds := [(48, [], [], none, none)], loops := [(9, [37], [.leaf (.int .i64)], [], [], some 0, none)], regs := [] }
theorem mix_Divide.eq : ∀ (x : TT [.agg [.int .i64, .int .i64], .leaf .slice]) (h : H), evalFn Try.prog (mix_Divide.tb) mix_Divide.A Try.f15 (.many [.leaf .slice, .leaf (.int .i64)]) (TT.un [.agg [.int .i64, .int .i64], .leaf .slice] x) h = mix_Divide x.1 x.2 h := by
  intro x h
  kernel_rfl
noncomputable def mix_Divide.e : Entry := mkX [.agg [.int .i64, .int .i64], .leaf .slice] (.many [.leaf .slice, .leaf (.int .i64)]) fun x h => mix_Divide x.1 x.2 h
theorem mix_Divide.ok : EntryOK Try.prog 15 (mix_Divide.e) := mkX_ok (mix_Divide.tbok) Try.mixed Try.func15 (by kernel_rfl) (mix_Divide.eq)
noncomputable def mix_DivideP (a0 : (Int × Int)) (a1 : (List (Int))) : Option ((List (Int × Int)) × Int) := (mix_Divide a0 (rowSV false [.int .i64] a1) H.empty).bind fun p => rdRes false p.2 (.many [.leaf (.row [.int .i64, .int .i64]), .leaf (.int .i64)]) (Res.un (.many [.leaf .slice, .leaf (.int .i64)]) p.1)
theorem mix_DivideP.eq : ∀ x : TT [.agg [.int .i64, .int .i64], .leaf (.row [.int .i64])], ((evalFn Try.prog (mix_Divide.tb) mix_Divide.A Try.f15 (.many [.leaf .slice, .leaf (.int .i64)]) (TT.lo false [.agg [.int .i64, .int .i64], .leaf (.row [.int .i64])] x) H.empty).bind fun p => rdRes false p.2 (.many [.leaf (.row [.int .i64, .int .i64]), .leaf (.int .i64)]) (Res.un (.many [.leaf .slice, .leaf (.int .i64)]) p.1)) = mix_DivideP x.1 x.2 := by
  intro x
  rw [show TT.lo false [.agg [.int .i64, .int .i64], .leaf (.row [.int .i64])] x = TT.un [.agg [.int .i64, .int .i64], .leaf .slice] (x.1, (rowSV false [.int .i64] x.2)) from rfl, mix_Divide.eq]
  rfl
noncomputable def mix_DivideP.e : Entry := mkP [.agg [.int .i64, .int .i64], .leaf (.row [.int .i64])] (.many [.leaf (.row [.int .i64, .int .i64]), .leaf (.int .i64)]) fun x => mix_DivideP x.1 x.2
theorem mix_DivideP.ok : EntryOK Try.prog 15 (mix_DivideP.e) := mkP_ok (mix_Divide.tbok) Try.mixed Try.func15 (by kernel_rfl) mix_DivideP.eq

/-! ### slices.IndexFunc[[]spile/api.Liquid,spile/api.Liquid]: function 46 -/
noncomputable def slices_IndexFunc_api_Liquid_api_Liquid.tb (T : Table) : Table := tab [] [] T
theorem slices_IndexFunc_api_Liquid_api_Liquid.tbok (T : Table) (hT : TabOK Try.prog T) : TabOK Try.prog (slices_IndexFunc_api_Liquid_api_Liquid.tb T) := TabOK.tab (hT) (all_nil _) (all_nil _)
noncomputable def slices_IndexFunc_api_Liquid_api_Liquid.loop1 (T : Table) (a0 : SV) (a1 : V) : (Int) × H → Option (Stp ((Int) × H) (Flow (Unit) (Int) × H)) := fun (y1, h2) =>
(bif (decide (y1 < ((a0.len : Nat) : Int))) then (guardO (0 ≤ y1 ∧ y1 < ((a0.len : Nat) : Int)) ((rdT (.agg [.int .i64, .int .i64]) h2 (V.add a0.a (Int.toNat y1 * 2))).bind fun (x3_0, x3_1) =>
(callV T.dy a1 [.agg [.int .i64 x3_0, .int .i64 x3_1]] h2 fun v4 h5 =>
(Res.pack (.one (.leaf .bool)) v4).bind fun r6 =>
(bif r6 then (some (.done (.ret y1, h5))) else (some (.more ((IntKind.wrap .i64 (y1 + 1)), h5))))))) else (some (.done (.ex0 (), h2))))
noncomputable def slices_IndexFunc_api_Liquid_api_Liquid (T : Table) (a0 : SV) (a1 : V) (h : H) : Option ((Int) × H) :=
((iter FUEL (slices_IndexFunc_api_Liquid_api_Liquid.loop1 T a0 a1) (0, h)).bind fun (fl8, h7) => match fl8 with
| .next _ => none
| .ret rr9 => (some (rr9, h7))
| .ex0 _ =>
(some ((-1), h7))
| .ex1 _ => none)
def slices_IndexFunc_api_Liquid_api_Liquid.A : Ann := { lits := [], conds := [], loops := [(2, [8], [.leaf (.int .i64)], [], [], some 0, none)], regs := [] }
theorem slices_IndexFunc_api_Liquid_api_Liquid.eq (T : Table) : ∀ (x : TT [.leaf .slice, .leaf .dyn]) (h : H), evalFn Try.prog (slices_IndexFunc_api_Liquid_api_Liquid.tb T) slices_IndexFunc_api_Liquid_api_Liquid.A Try.f46 (.one (.leaf (.int .i64))) (TT.un [.leaf .slice, .leaf .dyn] x) h = slices_IndexFunc_api_Liquid_api_Liquid T x.1 x.2 h := by
  intro x h
  kernel_rfl
noncomputable def slices_IndexFunc_api_Liquid_api_Liquid.e (T : Table) : Entry := mkX [.leaf .slice, .leaf .dyn] (.one (.leaf (.int .i64))) fun x h => slices_IndexFunc_api_Liquid_api_Liquid T x.1 x.2 h
theorem slices_IndexFunc_api_Liquid_api_Liquid.ok (T : Table) (hT : TabOK Try.prog T) : EntryOK Try.prog 46 (slices_IndexFunc_api_Liquid_api_Liquid.e T) := mkX_ok (slices_IndexFunc_api_Liquid_api_Liquid.tbok T hT) Try.mixed Try.func46 (by kernel_rfl) (slices_IndexFunc_api_Liquid_api_Liquid.eq T)

/-! ### slices.ContainsFunc[[]spile/api.Liquid,spile/api.Liquid]: function 26 -/
noncomputable def slices_ContainsFunc_api_Liquid_api_Liquid.tb (T : Table) : Table := tab [] [] T
theorem slices_ContainsFunc_api_Liquid_api_Liquid.tbok (T : Table) (hT : TabOK Try.prog T) : TabOK Try.prog (slices_ContainsFunc_api_Liquid_api_Liquid.tb T) := TabOK.tab (hT) (all_nil _) (all_nil _)
noncomputable def slices_ContainsFunc_api_Liquid_api_Liquid (T : Table) (a0 : SV) (a1 : V) (h : H) : Option ((Bool) × H) :=
((slices_IndexFunc_api_Liquid_api_Liquid (slices_ContainsFunc_api_Liquid_api_Liquid.tb T) a0 a1 h).bind fun (r1, h2) =>
(some ((decide ((0 : Int) ≤ r1)), h2)))
def slices_ContainsFunc_api_Liquid_api_Liquid.A : Ann := { lits := [], conds := [], loops := [], regs := [] }
noncomputable def slices_ContainsFunc_api_Liquid_api_Liquid.tc (T : Table) : Table := tab [(46, slices_IndexFunc_api_Liquid_api_Liquid.e (slices_ContainsFunc_api_Liquid_api_Liquid.tb T))] [] (slices_ContainsFunc_api_Liquid_api_Liquid.tb T)
theorem slices_ContainsFunc_api_Liquid_api_Liquid.tcok (T : Table) (hT : TabOK Try.prog T) : TabOK Try.prog (slices_ContainsFunc_api_Liquid_api_Liquid.tc T) := TabOK.tab (slices_ContainsFunc_api_Liquid_api_Liquid.tbok T hT) (all_cons (slices_IndexFunc_api_Liquid_api_Liquid.ok _ (slices_ContainsFunc_api_Liquid_api_Liquid.tbok T hT)) (all_nil _)) (all_nil _)
theorem slices_ContainsFunc_api_Liquid_api_Liquid.eq (T : Table) : ∀ (x : TT [.leaf .slice, .leaf .dyn]) (h : H), evalFn Try.prog (slices_ContainsFunc_api_Liquid_api_Liquid.tc T) slices_ContainsFunc_api_Liquid_api_Liquid.A Try.f26 (.one (.leaf .bool)) (TT.un [.leaf .slice, .leaf .dyn] x) h = slices_ContainsFunc_api_Liquid_api_Liquid T x.1 x.2 h := by
  intro x h
  kernel_rfl
noncomputable def slices_ContainsFunc_api_Liquid_api_Liquid.e (T : Table) : Entry := mkX [.leaf .slice, .leaf .dyn] (.one (.leaf .bool)) fun x h => slices_ContainsFunc_api_Liquid_api_Liquid T x.1 x.2 h
theorem slices_ContainsFunc_api_Liquid_api_Liquid.ok (T : Table) (hT : TabOK Try.prog T) : EntryOK Try.prog 26 (slices_ContainsFunc_api_Liquid_api_Liquid.e T) := mkX_ok (slices_ContainsFunc_api_Liquid_api_Liquid.tcok T hT) Try.mixed Try.func26 (by kernel_rfl) (slices_ContainsFunc_api_Liquid_api_Liquid.eq T)

/-! ### spile/mix.Sum$1: function 27 -/
noncomputable def mix_Sum_1.tb : Table := tab [(28, mix_plainP.e)] [] Table.nil
theorem mix_Sum_1.tbok : TabOK Try.prog (mix_Sum_1.tb) := TabOK.tab (TabOK.nil Try.prog) (all_cons mix_plainP.ok (all_nil _)) (all_nil _)
noncomputable def mix_Sum_1 (a0 : (Int × Int)) (h : H) : Option ((Bool) × H) :=
(match a0 with
| (a0_0, a0_1) =>
(let h1 : H := H.new h [.int .i64 a0_0, .int .i64 a0_1] 2
((rdT (.agg [.int .i64, .int .i64]) h1 (.hp h.next 2 0)).bind fun (x2_0, x2_1) =>
((mix_plainP (x2_0, x2_1)).bind fun r3 =>
(some ((!r3), h1))))))
def mix_Sum_1.A : Ann := { lits := [], conds := [], loops := [], regs := [] }
theorem mix_Sum_1.eq : ∀ (x : TT [.agg [.int .i64, .int .i64]]) (h : H), evalFn Try.prog (mix_Sum_1.tb) mix_Sum_1.A Try.f27 (.one (.leaf .bool)) (TT.un [.agg [.int .i64, .int .i64]] x) h = mix_Sum_1 x h := by
  intro x h
  kernel_rfl
noncomputable def mix_Sum_1.e : Entry := mkX [.agg [.int .i64, .int .i64]] (.one (.leaf .bool)) fun x h => mix_Sum_1 x h
theorem mix_Sum_1.ok : EntryOK Try.prog 27 (mix_Sum_1.e) := mkX_ok (mix_Sum_1.tbok) Try.mixed Try.func27 (by kernel_rfl) (mix_Sum_1.eq)
noncomputable def mix_Sum_1P (a0 : (Int × Int)) : Option (Bool) := (mix_Sum_1 a0 H.empty).bind fun p => rdRes false p.2 (.one (.leaf .bool)) (Res.un (.one (.leaf .bool)) p.1)
theorem mix_Sum_1P.eq : ∀ x : TT [.agg [.int .i64, .int .i64]], ((evalFn Try.prog (mix_Sum_1.tb) mix_Sum_1.A Try.f27 (.one (.leaf .bool)) (TT.lo false [.agg [.int .i64, .int .i64]] x) H.empty).bind fun p => rdRes false p.2 (.one (.leaf .bool)) (Res.un (.one (.leaf .bool)) p.1)) = mix_Sum_1P x := by
  intro x
  rw [show TT.lo false [.agg [.int .i64, .int .i64]] x = TT.un [.agg [.int .i64, .int .i64]] (x) from rfl, mix_Sum_1.eq]
  rfl
noncomputable def mix_Sum_1P.e : Entry := mkP [.agg [.int .i64, .int .i64]] (.one (.leaf .bool)) fun x => mix_Sum_1P x
theorem mix_Sum_1P.ok : EntryOK Try.prog 27 (mix_Sum_1P.e) := mkP_ok (mix_Sum_1.tbok) Try.mixed Try.func27 (by kernel_rfl) mix_Sum_1P.eq

/-! ### spile/mix.total: function 29 -/
noncomputable def mix_total.tb : Table := tab [] [] Table.nil
theorem mix_total.tbok : TabOK Try.prog (mix_total.tb) := TabOK.tab (TabOK.nil Try.prog) (all_nil _) (all_nil _)
noncomputable def mix_total.loop1 (a0 : SV) (h1 : H) : (Int) × H → Option (Stp ((Int) × H) (Flow (Unit) ((Int × Int)) × H)) := fun (y3, h4) =>
(bif (decide (y3 < ((a0.len : Nat) : Int))) then (guardO (0 ≤ y3 ∧ y3 < ((a0.len : Nat) : Int)) ((rdT (.agg [.int .i64, .int .i64]) h4 (V.add a0.a (Int.toNat y3 * 2))).bind fun (x5_0, x5_1) =>
(let h6 : H := H.new h4 [.int .i64 0, .int .i64 0] 2
((H.wrs h6 (.hp h4.next 2 0) [.int .i64 x5_0, .int .i64 x5_1]).bind fun h7 =>
(let h8 : H := H.reserve h7 0
((rdT (.leaf (.int .i64)) h8 (.hp h1.next 2 0)).bind fun x9 =>
((rdT (.leaf (.int .i64)) h8 (.hp h4.next 2 0)).bind fun x10 =>
((rdT (.leaf (.int .i64)) h8 (.hp h1.next 2 1)).bind fun x11 =>
((rdT (.leaf (.int .i64)) h8 (.hp h4.next 2 1)).bind fun x12 =>
((H.wrs h8 (.hp h1.next 2 0) [.int .i64 (IntKind.wrap .i64 (x9 + x10))]).bind fun h13 =>
((H.wrs h13 (.hp h1.next 2 1) [.int .i64 (IntKind.wrap .i64 (x11 + x12))]).bind fun h14 =>
(guardO (apartA (.hp h4.next 2 1 : V) (.hp h1.next 2 0 : V) = true) (some (.more ((IntKind.wrap .i64 (y3 + 1)), h14))))))))))))))) else (some (.done (.ex0 (), h4))))
noncomputable def mix_total (a0 : SV) (h : H) : Option (((Int × Int)) × H) :=
(let h1 : H := H.new h [.int .i64 0, .int .i64 0] 2
(let h2 : H := H.new h1 [.int .i64 0, .int .i64 0] 2
((iter FUEL (mix_total.loop1 a0 h1) (0, h2)).bind fun (fl16, h15) => match fl16 with
| .next _ => none
| .ret rr17 => (some (rr17, h15))
| .ex0 _ =>
((rdT (.leaf (.int .i64)) h15 (.hp h1.next 2 0)).bind fun x18 =>
((rdT (.leaf (.int .i64)) h15 (.hp h1.next 2 1)).bind fun x19 =>
((H.wrs h15 (.hp h.next 2 0) [.int .i64 x18, .int .i64 x19]).bind fun h20 =>
((rdT (.agg [.int .i64, .int .i64]) h20 (.hp h.next 2 0 : V)).bind fun (x21_0, x21_1) =>
(some ((x21_0, x21_1), h20))))))
| .ex1 _ => none)))
def mix_total.A : Ann := { lits := [], conds := [], loops := [(3, [8], [.leaf (.int .i64)], [], [], some 0, none)], regs := [] }
theorem mix_total.eq : ∀ (x : TT [.leaf .slice]) (h : H), evalFn Try.prog (mix_total.tb) mix_total.A Try.f29 (.one (.agg [.int .i64, .int .i64])) (TT.un [.leaf .slice] x) h = mix_total x h := by
  intro x h
  kernel_rfl
noncomputable def mix_total.e : Entry := mkX [.leaf .slice] (.one (.agg [.int .i64, .int .i64])) fun x h => mix_total x h
theorem mix_total.ok : EntryOK Try.prog 29 (mix_total.e) := mkX_ok (mix_total.tbok) Try.mixed Try.func29 (by kernel_rfl) (mix_total.eq)
noncomputable def mix_totalP (a0 : (List (Int × Int))) : Option ((Int × Int)) := (mix_total (rowSV false [.int .i64, .int .i64] a0) H.empty).bind fun p => rdRes false p.2 (.one (.agg [.int .i64, .int .i64])) (Res.un (.one (.agg [.int .i64, .int .i64])) p.1)
theorem mix_totalP.eq : ∀ x : TT [.leaf (.row [.int .i64, .int .i64])], ((evalFn Try.prog (mix_total.tb) mix_total.A Try.f29 (.one (.agg [.int .i64, .int .i64])) (TT.lo false [.leaf (.row [.int .i64, .int .i64])] x) H.empty).bind fun p => rdRes false p.2 (.one (.agg [.int .i64, .int .i64])) (Res.un (.one (.agg [.int .i64, .int .i64])) p.1)) = mix_totalP x := by
  intro x
  rw [show TT.lo false [.leaf (.row [.int .i64, .int .i64])] x = TT.un [.leaf .slice] ((rowSV false [.int .i64, .int .i64] x)) from rfl, mix_total.eq]
  rfl
noncomputable def mix_totalP.e : Entry := mkP [.leaf (.row [.int .i64, .int .i64])] (.one (.agg [.int .i64, .int .i64])) fun x => mix_totalP x
theorem mix_totalP.ok : EntryOK Try.prog 29 (mix_totalP.e) := mkP_ok (mix_total.tbok) Try.mixed Try.func29 (by kernel_rfl) mix_totalP.eq
end Go.Proofs.Ytaepkinihaipkaa
