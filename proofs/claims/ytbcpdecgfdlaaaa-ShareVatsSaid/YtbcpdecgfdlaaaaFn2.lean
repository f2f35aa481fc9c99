/- The functions of the program as Lean functions, each with the equation by which the evaluator is that function. Written by a program of this session (evdrive.py). Conditions: none. -/
import Derived.Test.YtbcpdecgfdlaaaaProg
import Derived.Test.YtbcpdecgfdlaaaaEvSpec
import Derived.Test.YtbcpdecgfdlaaaaFn1
namespace Go.Proofs.Ytbcpdecgfdlaaaa
open Go Go.Proofs.Ytbcpdecgfdlaaaa.Ev
set_option maxRecDepth 100000
set_option linter.unusedVariables false
/-! ### slices.SortStableFunc[[]int,int]: function 66 -/
noncomputable def slices_SortStableFunc_int_int.tb (T : Table) : Table := tab [] [] T
theorem slices_SortStableFunc_int_int.tbok (T : Table) (hT : TabOK Try.prog T) : TabOK Try.prog (slices_SortStableFunc_int_int.tb T) := TabOK.tab (hT) (all_nil _) (all_nil _)
noncomputable def slices_SortStableFunc_int_int (T : Table) (a0 : SV) (a1 : V) (h : H) : Option ((Unit) × H) :=
((slices_stableCmpFunc_int (slices_SortStableFunc_int_int.tb T) a0 ((a0.len : Nat) : Int) a1 h).bind fun (_, h1) =>
(some ((), h1)))
def slices_SortStableFunc_int_int.A : Ann := { lits := [], conds := [], loops := [], regs := [] }
noncomputable def slices_SortStableFunc_int_int.tc (T : Table) : Table := tab [(83, slices_stableCmpFunc_int.e (slices_SortStableFunc_int_int.tb T))] [] (slices_SortStableFunc_int_int.tb T)
theorem slices_SortStableFunc_int_int.tcok (T : Table) (hT : TabOK Try.prog T) : TabOK Try.prog (slices_SortStableFunc_int_int.tc T) := TabOK.tab (slices_SortStableFunc_int_int.tbok T hT) (all_cons (slices_stableCmpFunc_int.ok _ (slices_SortStableFunc_int_int.tbok T hT)) (all_nil _)) (all_nil _)
theorem slices_SortStableFunc_int_int.eq (T : Table) : ∀ (x : TT [.leaf .slice, .leaf .dyn]) (h : H), evalFn Try.prog (slices_SortStableFunc_int_int.tc T) slices_SortStableFunc_int_int.A Try.f66 (.many []) (TT.un [.leaf .slice, .leaf .dyn] x) h = slices_SortStableFunc_int_int T x.1 x.2 h := by
  intro x h
  kernel_rfl
noncomputable def slices_SortStableFunc_int_int.e (T : Table) : Entry := mkX [.leaf .slice, .leaf .dyn] (.many []) fun x h => slices_SortStableFunc_int_int T x.1 x.2 h
theorem slices_SortStableFunc_int_int.ok (T : Table) (hT : TabOK Try.prog T) : EntryOK Try.prog 66 (slices_SortStableFunc_int_int.e T) := mkX_ok (slices_SortStableFunc_int_int.tcok T hT) Try.mixed Try.func66 (by kernel_rfl) (slices_SortStableFunc_int_int.eq T)

/-! ### cmp.isNaN[int]: function 84 -/
noncomputable def cmp_isNaN_int.tb : Table := tab [] [] Table.nil
theorem cmp_isNaN_int.tbok : TabOK Try.prog (cmp_isNaN_int.tb) := TabOK.tab (TabOK.nil Try.prog) (all_nil _) (all_nil _)
noncomputable def cmp_isNaN_int (a0 : Int) (h : H) : Option ((Bool) × H) :=
(some ((!(decide (a0 = a0))), h))
def cmp_isNaN_int.A : Ann := { lits := [], conds := [], loops := [], regs := [] }
theorem cmp_isNaN_int.eq : ∀ (x : TT [.leaf (.int .i64)]) (h : H), evalFn Try.prog (cmp_isNaN_int.tb) cmp_isNaN_int.A Try.f84 (.one (.leaf .bool)) (TT.un [.leaf (.int .i64)] x) h = cmp_isNaN_int x h := by
  intro x h
  kernel_rfl
noncomputable def cmp_isNaN_int.e : Entry := mkX [.leaf (.int .i64)] (.one (.leaf .bool)) fun x h => cmp_isNaN_int x h
theorem cmp_isNaN_int.ok : EntryOK Try.prog 84 (cmp_isNaN_int.e) := mkX_ok (cmp_isNaN_int.tbok) Try.mixed Try.func84 (by kernel_rfl) (cmp_isNaN_int.eq)
noncomputable def cmp_isNaN_intP (a0 : Int) : Option (Bool) := (cmp_isNaN_int a0 H.empty).bind fun p => rdRes false p.2 (.one (.leaf .bool)) (Res.un (.one (.leaf .bool)) p.1)
theorem cmp_isNaN_intP.eq : ∀ x : TT [.leaf (.int .i64)], ((evalFn Try.prog (cmp_isNaN_int.tb) cmp_isNaN_int.A Try.f84 (.one (.leaf .bool)) (TT.lo false [.leaf (.int .i64)] x) H.empty).bind fun p => rdRes false p.2 (.one (.leaf .bool)) (Res.un (.one (.leaf .bool)) p.1)) = cmp_isNaN_intP x := by
  intro x
  rw [show TT.lo false [.leaf (.int .i64)] x = TT.un [.leaf (.int .i64)] (x) from rfl, cmp_isNaN_int.eq]
  rfl
noncomputable def cmp_isNaN_intP.e : Entry := mkP [.leaf (.int .i64)] (.one (.leaf .bool)) fun x => cmp_isNaN_intP x
theorem cmp_isNaN_intP.ok : EntryOK Try.prog 84 (cmp_isNaN_intP.e) := mkP_ok (cmp_isNaN_int.tbok) Try.mixed Try.func84 (by kernel_rfl) cmp_isNaN_intP.eq

/-! ### cmp.Compare[int]: function 68 -/
noncomputable def cmp_Compare_int.tb : Table := tab [(84, cmp_isNaN_intP.e)] [] Table.nil
theorem cmp_Compare_int.tbok : TabOK Try.prog (cmp_Compare_int.tb) := TabOK.tab (TabOK.nil Try.prog) (all_cons cmp_isNaN_intP.ok (all_nil _)) (all_nil _)
noncomputable def cmp_Compare_int (a0 : Int) (a1 : Int) (h : H) : Option ((Int) × H) :=
((cmp_isNaN_intP a0).bind fun r1 =>
((cmp_isNaN_intP a1).bind fun r2 =>
(bif r1 then (bif r2 then (some (0, h)) else (some ((-1), h))) else (bif r2 then (some (1, h)) else (bif (decide (a0 < a1)) then (some ((-1), h)) else (bif (decide (a1 < a0)) then (some (1, h)) else (some (0, h))))))))
def cmp_Compare_int.A : Ann := { lits := [], conds := [], loops := [], regs := [] }
theorem cmp_Compare_int.eq : ∀ (x : TT [.leaf (.int .i64), .leaf (.int .i64)]) (h : H), evalFn Try.prog (cmp_Compare_int.tb) cmp_Compare_int.A Try.f68 (.one (.leaf (.int .i64))) (TT.un [.leaf (.int .i64), .leaf (.int .i64)] x) h = cmp_Compare_int x.1 x.2 h := by
  intro x h
  kernel_rfl
noncomputable def cmp_Compare_int.e : Entry := mkX [.leaf (.int .i64), .leaf (.int .i64)] (.one (.leaf (.int .i64))) fun x h => cmp_Compare_int x.1 x.2 h
theorem cmp_Compare_int.ok : EntryOK Try.prog 68 (cmp_Compare_int.e) := mkX_ok (cmp_Compare_int.tbok) Try.mixed Try.func68 (by kernel_rfl) (cmp_Compare_int.eq)
noncomputable def cmp_Compare_intP (a0 : Int) (a1 : Int) : Option (Int) := (cmp_Compare_int a0 a1 H.empty).bind fun p => rdRes false p.2 (.one (.leaf (.int .i64))) (Res.un (.one (.leaf (.int .i64))) p.1)
theorem cmp_Compare_intP.eq : ∀ x : TT [.leaf (.int .i64), .leaf (.int .i64)], ((evalFn Try.prog (cmp_Compare_int.tb) cmp_Compare_int.A Try.f68 (.one (.leaf (.int .i64))) (TT.lo false [.leaf (.int .i64), .leaf (.int .i64)] x) H.empty).bind fun p => rdRes false p.2 (.one (.leaf (.int .i64))) (Res.un (.one (.leaf (.int .i64))) p.1)) = cmp_Compare_intP x.1 x.2 := by
  intro x
  rw [show TT.lo false [.leaf (.int .i64), .leaf (.int .i64)] x = TT.un [.leaf (.int .i64), .leaf (.int .i64)] (x.1, x.2) from rfl, cmp_Compare_int.eq]
  rfl
noncomputable def cmp_Compare_intP.e : Entry := mkP [.leaf (.int .i64), .leaf (.int .i64)] (.one (.leaf (.int .i64))) fun x => cmp_Compare_intP x.1 x.2
theorem cmp_Compare_intP.ok : EntryOK Try.prog 68 (cmp_Compare_intP.e) := mkP_ok (cmp_Compare_int.tbok) Try.mixed Try.func68 (by kernel_rfl) cmp_Compare_intP.eq

/-! ### spile/proportion.Divide$1: function 67 -/
noncomputable def proportion_Divide_1.tb : Table := tab [(68, cmp_Compare_intP.e)] [] Table.nil
theorem proportion_Divide_1.tbok : TabOK Try.prog (proportion_Divide_1.tb) := TabOK.tab (TabOK.nil Try.prog) (all_cons cmp_Compare_intP.ok (all_nil _)) (all_nil _)
noncomputable def proportion_Divide_1 (a0 : Int) (a1 : Int) (a2 : V) (h : H) : Option ((Int) × H) :=
(let h1 : H := H.reserve h 0
((rdT (.leaf .slice) h1 a2).bind fun x2 =>
(guardO (0 ≤ a1 ∧ a1 < ((x2.len : Nat) : Int)) ((rdT (.leaf (.int .i64)) h1 (V.add x2.a (Int.toNat a1 * 1))).bind fun x3 =>
((rdT (.leaf .slice) h1 a2).bind fun x4 =>
(guardO (0 ≤ a0 ∧ a0 < ((x4.len : Nat) : Int)) ((rdT (.leaf (.int .i64)) h1 (V.add x4.a (Int.toNat a0 * 1))).bind fun x5 =>
((cmp_Compare_intP x3 x5).bind fun r6 =>
(some (r6, h1))))))))))
def proportion_Divide_1.A : Ann := { lits := [], conds := [], loops := [], regs := [] }
theorem proportion_Divide_1.eq : ∀ (x : TT [.leaf (.int .i64), .leaf (.int .i64), .leaf .ptr]) (h : H), evalFn Try.prog (proportion_Divide_1.tb) proportion_Divide_1.A Try.f67 (.one (.leaf (.int .i64))) (TT.un [.leaf (.int .i64), .leaf (.int .i64), .leaf .ptr] x) h = proportion_Divide_1 x.1 x.2.1 x.2.2 h := by
  intro x h
  kernel_rfl
noncomputable def proportion_Divide_1.e : Entry := mkX [.leaf (.int .i64), .leaf (.int .i64), .leaf .ptr] (.one (.leaf (.int .i64))) fun x h => proportion_Divide_1 x.1 x.2.1 x.2.2 h
theorem proportion_Divide_1.ok : EntryOK Try.prog 67 (proportion_Divide_1.e) := mkX_ok (proportion_Divide_1.tbok) Try.mixed Try.func67 (by kernel_rfl) (proportion_Divide_1.eq)

/-! ### spile/proportion.Divide: function 42 -/
noncomputable def proportion_Divide.tb : Table := tab [(61, proportion_weighP.e), (65, proportion_dividedP.e)] [(67, proportion_Divide_1.e)] Table.nil
theorem proportion_Divide.tbok : TabOK Try.prog (proportion_Divide.tb) := TabOK.tab (TabOK.nil Try.prog) (all_cons proportion_weighP.ok (all_cons proportion_dividedP.ok (all_nil _))) (all_cons proportion_Divide_1.ok (all_nil _))
noncomputable def proportion_Divide.loop1 (h : H) (a0 : Int) (a1 : SV) (r1 : Int) : (Int × Int) × H → Option (Stp ((Int × Int) × H) (Flow (Int) (SV × Int) × H)) := fun ((y10, y11), h12) =>
(bif (decide (y11 < ((a1.len : Nat) : Int))) then (guardO (0 ≤ y11 ∧ y11 < ((a1.len : Nat) : Int)) ((rdT (.leaf (.int .i64)) h12 (V.add a1.a (Int.toNat y11 * 1))).bind fun x13 =>
(let h14 : H := H.reserve h12 0
((rdT (.leaf .slice) h14 (.hp (h.next + 3) 1 0)).bind fun x15 =>
((proportion_dividedP a0 x13 r1).bind fun (r16, r17, r18) =>
(guardO (0 ≤ y11 ∧ y11 < (((Int.toNat ((a1.len : Nat) : Int)) : Nat) : Int)) ((H.wrs h14 (.hp h.next (Int.toNat ((a1.len : Nat) : Int) * 1) (0 + (Int.toNat y11 * 1))) [.int .i64 r16]).bind fun h19 =>
(guardO (0 ≤ y11 ∧ y11 < ((x15.len : Nat) : Int)) ((H.wrs h19 (V.add x15.a (Int.toNat y11 * 1)) [.int .i64 r17]).bind fun h20 =>
(guardO (apartA (.hp (h.next + 3) 1 0 : V) (.hp h.next (Int.toNat ((a1.len : Nat) : Int) * 1) (0 + (Int.toNat y11 * 1)) : V) = true) (guardO (0 ≤ y11 ∧ y11 < (((Int.toNat ((a1.len : Nat) : Int)) : Nat) : Int)) ((H.wrs h20 (.hp (h.next + 2) (Int.toNat ((a1.len : Nat) : Int) * 1) (0 + (Int.toNat y11 * 1))) [.int .i64 y11]).bind fun h21 =>
(guardO (0 ≤ y11 ∧ y11 < (((Int.toNat ((a1.len : Nat) : Int)) : Nat) : Int)) ((rdT (.leaf (.int .i64)) h21 (.hp h.next (Int.toNat ((a1.len : Nat) : Int) * 1) (0 + (Int.toNat y11 * 1)))).bind fun x22 =>
(some (.more (((IntKind.wrap .i64 (y10 - x22)), (IntKind.wrap .i64 (y11 + 1))), h21))))))))))))))))) else (some (.done (.ex0 y10, h12))))
noncomputable def proportion_Divide.loop2 (h : H) (a1 : SV) (y26 : Int) : (Int) × H → Option (Stp ((Int) × H) (Flow (Unit) (SV × Int) × H)) := fun (y28, h29) =>
(bif (decide (y28 < y26)) then (guardO (0 ≤ y28 ∧ y28 < (((Int.toNat ((a1.len : Nat) : Int)) : Nat) : Int)) ((rdT (.leaf (.int .i64)) h29 (.hp (h.next + 2) (Int.toNat ((a1.len : Nat) : Int) * 1) (0 + (Int.toNat y28 * 1)))).bind fun x30 =>
(guardO (0 ≤ x30 ∧ x30 < (((Int.toNat ((a1.len : Nat) : Int)) : Nat) : Int)) ((rdT (.leaf (.int .i64)) h29 (.hp h.next (Int.toNat ((a1.len : Nat) : Int) * 1) (0 + (Int.toNat x30 * 1)))).bind fun x31 =>
(guardO (0 ≤ x30 ∧ x30 < (((Int.toNat ((a1.len : Nat) : Int)) : Nat) : Int)) ((H.wrs h29 (.hp h.next (Int.toNat ((a1.len : Nat) : Int) * 1) (0 + (Int.toNat x30 * 1))) [.int .i64 (IntKind.wrap .i64 (x31 + 1))]).bind fun h32 =>
(some (.more ((IntKind.wrap .i64 (y28 + 1)), h32))))))))) else (some (.done (.ex0 (), h29))))
noncomputable def proportion_Divide (a0 : Int) (a1 : SV) (h : H) : Option ((SV × Int) × H) :=
((rdRow true h [.int .i64] a1).bind fun s3 =>
((proportion_weighP a0 s3).bind fun (r1, r2) =>
(bif (!(decide (r2 = 0))) then (some ((⟨.nil, 0, 0, false⟩, r2), h)) else (let h4 : H := H.reserve h 4
(guardO (0 ≤ ((a1.len : Nat) : Int) ∧ ((a1.len : Nat) : Int) ≤ ((a1.len : Nat) : Int) ∧ ((a1.len : Nat) : Int) ≤ roomCells ∧ 8 ≤ 2 ^ 11 ∧ 1 = 1) (let h5 : H := H.put h4 h.next (.own (repeatCells [.int .i64 0] (Int.toNat ((a1.len : Nat) : Int))) 1)
(guardO (0 ≤ ((a1.len : Nat) : Int) ∧ ((a1.len : Nat) : Int) ≤ ((a1.len : Nat) : Int) ∧ ((a1.len : Nat) : Int) ≤ roomCells ∧ 8 ≤ 2 ^ 11 ∧ 1 = 1) (let h6 : H := H.put h5 (h.next + 1) (.own (repeatCells [.int .i64 0] (Int.toNat ((a1.len : Nat) : Int))) 1)
(guardO (0 ≤ ((a1.len : Nat) : Int) ∧ ((a1.len : Nat) : Int) ≤ ((a1.len : Nat) : Int) ∧ ((a1.len : Nat) : Int) ≤ roomCells ∧ 8 ≤ 2 ^ 11 ∧ 1 = 1) (let h7 : H := H.put h6 (h.next + 2) (.own (repeatCells [.int .i64 0] (Int.toNat ((a1.len : Nat) : Int))) 1)
(let h8 : H := H.put h7 (h.next + 3) (.own [.slice .nil 0 0 false] 1)
((H.wrs h8 (.hp (h.next + 3) 1 0) [.slice (.hp (h.next + 1) (Int.toNat ((a1.len : Nat) : Int) * 1) 0) (Int.toNat ((a1.len : Nat) : Int)) (Int.toNat ((a1.len : Nat) : Int)) true]).bind fun h9 =>
(guardO (apartA (.hp (h.next + 2) 0 0 : V) (.hp (h.next + 3) 1 0 : V) = true) ((iter FUEL (proportion_Divide.loop1 h a0 a1 r1) ((a0, 0), h9)).bind fun (fl24, h23) => match fl24 with
| .next _ => none
| .ret rr25 => (some (rr25, h23))
| .ex0 y26 =>
((slices_SortStableFunc_int_int proportion_Divide.tb ⟨.hp (h.next + 2) (Int.toNat ((a1.len : Nat) : Int) * 1) 0, (Int.toNat ((a1.len : Nat) : Int)), (Int.toNat ((a1.len : Nat) : Int)), true⟩ (.func 67 [.hp (h.next + 3) 1 0] : V) h23).bind fun (_, h27) =>
((iter FUEL (proportion_Divide.loop2 h a1 y26) (0, h27)).bind fun (fl34, h33) => match fl34 with
| .next _ => none
| .ret rr35 => (some (rr35, h33))
| .ex0 _ =>
(some ((⟨.hp h.next (Int.toNat ((a1.len : Nat) : Int) * 1) 0, (Int.toNat ((a1.len : Nat) : Int)), (Int.toNat ((a1.len : Nat) : Int)), true⟩, 0), h33))
| .ex1 _ => none))
| .ex1 _ => none))))))))))))))
def proportion_Divide.A : Ann := { lits := [], conds := [], loops := [(7, [11, 36], [.leaf (.int .i64), .leaf (.int .i64)], [11], [.leaf (.int .i64)], some 0, none), (15, [70], [.leaf (.int .i64)], [], [], some 2, none)], regs := [] }
noncomputable def proportion_Divide.tc : Table := tab [(66, slices_SortStableFunc_int_int.e (proportion_Divide.tb))] [] (proportion_Divide.tb)
theorem proportion_Divide.tcok : TabOK Try.prog (proportion_Divide.tc) := TabOK.tab (proportion_Divide.tbok) (all_cons (slices_SortStableFunc_int_int.ok _ (proportion_Divide.tbok)) (all_nil _)) (all_nil _)
theorem proportion_Divide.eq : ∀ (x : TT [.leaf (.int .i64), .leaf .slice]) (h : H), evalFn Try.prog (proportion_Divide.tc) proportion_Divide.A Try.f42 (.many [.leaf .slice, .leaf (.int .i64)]) (TT.un [.leaf (.int .i64), .leaf .slice] x) h = proportion_Divide x.1 x.2 h := by
  intro x h
  kernel_rfl
noncomputable def proportion_Divide.e : Entry := mkX [.leaf (.int .i64), .leaf .slice] (.many [.leaf .slice, .leaf (.int .i64)]) fun x h => proportion_Divide x.1 x.2 h
theorem proportion_Divide.ok : EntryOK Try.prog 42 (proportion_Divide.e) := mkX_ok (proportion_Divide.tcok) Try.mixed Try.func42 (by kernel_rfl) (proportion_Divide.eq)
noncomputable def proportion_DivideP (a0 : Int) (a1 : (List (Int))) : Option ((List (Int)) × Int) := (proportion_Divide a0 (rowSV false [.int .i64] a1) H.empty).bind fun p => rdRes false p.2 (.many [.leaf (.row [.int .i64]), .leaf (.int .i64)]) (Res.un (.many [.leaf .slice, .leaf (.int .i64)]) p.1)
theorem proportion_DivideP.eq : ∀ x : TT [.leaf (.int .i64), .leaf (.row [.int .i64])], ((evalFn Try.prog (proportion_Divide.tc) proportion_Divide.A Try.f42 (.many [.leaf .slice, .leaf (.int .i64)]) (TT.lo false [.leaf (.int .i64), .leaf (.row [.int .i64])] x) H.empty).bind fun p => rdRes false p.2 (.many [.leaf (.row [.int .i64]), .leaf (.int .i64)]) (Res.un (.many [.leaf .slice, .leaf (.int .i64)]) p.1)) = proportion_DivideP x.1 x.2 := by
  intro x
  rw [show TT.lo false [.leaf (.int .i64), .leaf (.row [.int .i64])] x = TT.un [.leaf (.int .i64), .leaf .slice] (x.1, (rowSV false [.int .i64] x.2)) from rfl, proportion_Divide.eq]
  rfl
noncomputable def proportion_DivideP.e : Entry := mkP [.leaf (.int .i64), .leaf (.row [.int .i64])] (.many [.leaf (.row [.int .i64]), .leaf (.int .i64)]) fun x => proportion_DivideP x.1 x.2
theorem proportion_DivideP.ok : EntryOK Try.prog 42 (proportion_DivideP.e) := mkP_ok (proportion_Divide.tcok) Try.mixed Try.func42 (by kernel_rfl) proportion_DivideP.eq

/-! ### slices.Clone[[]int,int]: function 62 -/
noncomputable def slices_Clone_int_int.tb : Table := tab [] [] Table.nil
theorem slices_Clone_int_int.tbok : TabOK Try.prog (slices_Clone_int_int.tb) := TabOK.tab (TabOK.nil Try.prog) (all_nil _) (all_nil _)
noncomputable def slices_Clone_int_int (a0 : SV) (h : H) : Option ((SV) × H) :=
(bif !(V.mayNil (a0.a : V)) then (bif (!(V.nn (a0.a : V))) then (some (⟨.nil, 0, 0, false⟩, h)) else ((cellsOf h (.slice a0.a a0.len a0.cap a0.tail : V) 1).bind fun (n3, cs3) =>
((appendS h none 1 8 (⟨.lp true ([]) 0, 0, 0, false⟩) cs3 n3).bind fun (s3, h2) =>
(some (s3, h2))))) else none)
def slices_Clone_int_int.A : Ann := { lits := [], conds := [], loops := [], regs := [] }
theorem slices_Clone_int_int.eq : ∀ (x : TT [.leaf .slice]) (h : H), evalFn Try.prog (slices_Clone_int_int.tb) slices_Clone_int_int.A Try.f62 (.one (.leaf .slice)) (TT.un [.leaf .slice] x) h = slices_Clone_int_int x h := by
  intro x h
  kernel_rfl
noncomputable def slices_Clone_int_int.e : Entry := mkX [.leaf .slice] (.one (.leaf .slice)) (cloneX 1 8)
theorem slices_Clone_int_int.ok : EntryOK Try.prog 62 slices_Clone_int_int.e := cloneX_ok (g := slices_Clone_int_int) (mkX_ok (slices_Clone_int_int.tbok) Try.mixed Try.func62 (by kernel_rfl) (slices_Clone_int_int.eq)) (fun s h => by kernel_rfl)
noncomputable def slices_Clone_int_intP.e : Entry := mkP [.leaf (.row [.int .i64])] (.one (.leaf (.row [.int .i64]))) (cloneP 8)
theorem slices_Clone_int_intP.ok : EntryOK Try.prog 62 slices_Clone_int_intP.e := cloneP_ok slices_Clone_int_int.ok rfl (by omega) rfl

/-! ### spile/proportion.Draw: function 39 -/
noncomputable def proportion_Draw.tb : Table := tab [(42, proportion_DivideP.e), (61, proportion_weighP.e), (62, slices_Clone_int_int.e)] [] Table.nil
theorem proportion_Draw.tbok : TabOK Try.prog (proportion_Draw.tb) := TabOK.tab (TabOK.nil Try.prog) (all_cons proportion_DivideP.ok (all_cons proportion_weighP.ok (all_cons slices_Clone_int_int.ok (all_nil _)))) (all_nil _)
noncomputable def proportion_Draw.loop1 (r4 : List (Int)) (r7 : SV) : (Int) × H → Option (Stp ((Int) × H) (Flow (Unit) (SV × SV × Int) × H)) := fun (y9, h10) =>
(bif (decide (y9 < ((r4.length : Nat) : Int))) then (guardO (0 ≤ y9 ∧ y9 < ((r4.length : Nat) : Int)) ((rdT (.leaf (.int .i64)) h10 (V.add ((rowSV true [.int .i64] r4).a) (Int.toNat y9 * 1))).bind fun x11 =>
(guardO (0 ≤ y9 ∧ y9 < ((r7.len : Nat) : Int)) ((rdT (.leaf (.int .i64)) h10 (V.add r7.a (Int.toNat y9 * 1))).bind fun x12 =>
(guardO (0 ≤ y9 ∧ y9 < ((r7.len : Nat) : Int)) ((H.wrs h10 (V.add r7.a (Int.toNat y9 * 1)) [.int .i64 (IntKind.wrap .i64 (x12 - x11))]).bind fun h13 =>
(some (.more ((IntKind.wrap .i64 (y9 + 1)), h13))))))))) else (some (.done (.ex0 (), h10))))
noncomputable def proportion_Draw (a0 : SV) (a1 : Int) (h : H) : Option ((SV × SV × Int) × H) :=
((rdRow true h [.int .i64] a0).bind fun s3 =>
((proportion_weighP a1 s3).bind fun (r1, r2) =>
(bif (!(decide (r2 = 0))) then (some ((⟨.nil, 0, 0, false⟩, ⟨.nil, 0, 0, false⟩, r2), h)) else (bif (decide (r1 < a1)) then (some ((⟨.nil, 0, 0, false⟩, ⟨.nil, 0, 0, false⟩, 17), h)) else ((rdRow true h [.int .i64] a0).bind fun s6 =>
((proportion_DivideP a1 s6).bind fun (r4, r5) =>
((cloneX 1 8 a0 h).bind fun (r7, h8) =>
((iter FUEL (proportion_Draw.loop1 r4 r7) (0, h8)).bind fun (fl15, h14) => match fl15 with
| .next _ => none
| .ret rr16 => (some (rr16, h14))
| .ex0 _ =>
(some (((rowSV true [.int .i64] r4), r7, 0), h14))
| .ex1 _ => none))))))))
def proportion_Draw.A : Ann := { lits := [], conds := [], loops := [(9, [36], [.leaf (.int .i64)], [], [], some 0, none)], regs := [] }
theorem proportion_Draw.eq : ∀ (x : TT [.leaf .slice, .leaf (.int .i64)]) (h : H), evalFn Try.prog (proportion_Draw.tb) proportion_Draw.A Try.f39 (.many [.leaf .slice, .leaf .slice, .leaf (.int .i64)]) (TT.un [.leaf .slice, .leaf (.int .i64)] x) h = proportion_Draw x.1 x.2 h := by
  intro x h
  kernel_rfl
noncomputable def proportion_Draw.e : Entry := mkX [.leaf .slice, .leaf (.int .i64)] (.many [.leaf .slice, .leaf .slice, .leaf (.int .i64)]) fun x h => proportion_Draw x.1 x.2 h
theorem proportion_Draw.ok : EntryOK Try.prog 39 (proportion_Draw.e) := mkX_ok (proportion_Draw.tbok) Try.mixed Try.func39 (by kernel_rfl) (proportion_Draw.eq)
noncomputable def proportion_DrawP (a0 : (List (Int))) (a1 : Int) : Option ((List (Int)) × (List (Int)) × Int) := (proportion_Draw (rowSV false [.int .i64] a0) a1 H.empty).bind fun p => rdRes false p.2 (.many [.leaf (.row [.int .i64]), .leaf (.row [.int .i64]), .leaf (.int .i64)]) (Res.un (.many [.leaf .slice, .leaf .slice, .leaf (.int .i64)]) p.1)
theorem proportion_DrawP.eq : ∀ x : TT [.leaf (.row [.int .i64]), .leaf (.int .i64)], ((evalFn Try.prog (proportion_Draw.tb) proportion_Draw.A Try.f39 (.many [.leaf .slice, .leaf .slice, .leaf (.int .i64)]) (TT.lo false [.leaf (.row [.int .i64]), .leaf (.int .i64)] x) H.empty).bind fun p => rdRes false p.2 (.many [.leaf (.row [.int .i64]), .leaf (.row [.int .i64]), .leaf (.int .i64)]) (Res.un (.many [.leaf .slice, .leaf .slice, .leaf (.int .i64)]) p.1)) = proportion_DrawP x.1 x.2 := by
  intro x
  rw [show TT.lo false [.leaf (.row [.int .i64]), .leaf (.int .i64)] x = TT.un [.leaf .slice, .leaf (.int .i64)] ((rowSV false [.int .i64] x.1), x.2) from rfl, proportion_Draw.eq]
  rfl
noncomputable def proportion_DrawP.e : Entry := mkP [.leaf (.row [.int .i64]), .leaf (.int .i64)] (.many [.leaf (.row [.int .i64]), .leaf (.row [.int .i64]), .leaf (.int .i64)]) fun x => proportion_DrawP x.1 x.2
theorem proportion_DrawP.ok : EntryOK Try.prog 39 (proportion_DrawP.e) := mkP_ok (proportion_Draw.tbok) Try.mixed Try.func39 (by kernel_rfl) proportion_DrawP.eq

/-! ### spile/share.with: function 40 -/
noncomputable def share_with.tb : Table := tab [] [] Table.nil
theorem share_with.tbok : TabOK Try.prog (share_with.tb) := TabOK.tab (TabOK.nil Try.prog) (all_nil _) (all_nil _)
noncomputable def share_with.loop1 (a0 : SV) (a1 : SV) : (SV × Int) × H → Option (Stp ((SV × Int) × H) (Flow (SV) (SV) × H)) := fun ((y1, y2), h3) =>
(bif (decide (y2 < ((a0.len : Nat) : Int))) then (guardO (0 ≤ y2 ∧ y2 < ((a0.len : Nat) : Int)) ((rdT (.agg [.int .i64, .int .i64]) h3 (V.add a0.a (Int.toNat y2 * 2))).bind fun (x4_0, x4_1) =>
(let h5 : H := H.new h3 [.int .i64 0, .int .i64 0] 2
((H.wrs h5 (.hp h3.next 2 0) [.int .i64 x4_0, .int .i64 x4_1]).bind fun h6 =>
(guardO (0 ≤ y2 ∧ y2 < ((a1.len : Nat) : Int)) ((rdT (.leaf (.int .i64)) h6 (V.add a1.a (Int.toNat y2 * 1))).bind fun x7 =>
((bif (decide ((0 : Int) < x7)) then (let h8 : H := H.reserve h6 0
((rdT (.leaf (.int .i64)) h8 (.hp h3.next 2 0)).bind fun x9 =>
(guardO (0 ≤ y2 ∧ y2 < ((a1.len : Nat) : Int)) ((rdT (.leaf (.int .i64)) h8 (V.add a1.a (Int.toNat y2 * 1))).bind fun x10 =>
((appendS h8 none 2 16 y1 [.int .i64 x9, .int .i64 x10] 1).bind fun (s13, h12) =>
(some (.next s13, h12))))))) else (some (.next y1, h6)) : Option (Flow (SV) (SV) × H)).bind fun (fl16, h15) => match fl16 with
| .next y17 =>
(some (.more ((y17, (IntKind.wrap .i64 (y2 + 1))), h15)))
| .ret rr18 => (some (.done (.ret rr18, h15)))
| .ex0 _ => none
| .ex1 _ => none))))))) else (some (.done (.ex0 y1, h3))))
noncomputable def share_with (a0 : SV) (a1 : SV) (h : H) : Option ((SV) × H) :=
((iter FUEL (share_with.loop1 a0 a1) ((⟨.nil, 0, 0, false⟩, 0), h)).bind fun (fl20, h19) => match fl20 with
| .next _ => none
| .ret rr21 => (some (rr21, h19))
| .ex0 y22 =>
(some (y22, h19))
| .ex1 _ => none)
def share_with.A : Ann := { lits := [], conds := [(19, [5], [.leaf .slice], none, none)], loops := [(3, [5, 10], [.leaf .slice, .leaf (.int .i64)], [5], [.leaf .slice], some 0, none)], regs := [] }
theorem share_with.eq : ∀ (x : TT [.leaf .slice, .leaf .slice]) (h : H), evalFn Try.prog (share_with.tb) share_with.A Try.f40 (.one (.leaf .slice)) (TT.un [.leaf .slice, .leaf .slice] x) h = share_with x.1 x.2 h := by
  intro x h
  kernel_rfl
noncomputable def share_with.e : Entry := mkX [.leaf .slice, .leaf .slice] (.one (.leaf .slice)) fun x h => share_with x.1 x.2 h
theorem share_with.ok : EntryOK Try.prog 40 (share_with.e) := mkX_ok (share_with.tbok) Try.mixed Try.func40 (by kernel_rfl) (share_with.eq)
noncomputable def share_withP (a0 : (List (Int × Int))) (a1 : (List (Int))) : Option ((List (Int × Int))) := (share_with (rowSV false [.int .i64, .int .i64] a0) (rowSV false [.int .i64] a1) H.empty).bind fun p => rdRes false p.2 (.one (.leaf (.row [.int .i64, .int .i64]))) (Res.un (.one (.leaf .slice)) p.1)
theorem share_withP.eq : ∀ x : TT [.leaf (.row [.int .i64, .int .i64]), .leaf (.row [.int .i64])], ((evalFn Try.prog (share_with.tb) share_with.A Try.f40 (.one (.leaf .slice)) (TT.lo false [.leaf (.row [.int .i64, .int .i64]), .leaf (.row [.int .i64])] x) H.empty).bind fun p => rdRes false p.2 (.one (.leaf (.row [.int .i64, .int .i64]))) (Res.un (.one (.leaf .slice)) p.1)) = share_withP x.1 x.2 := by
  intro x
  rw [show TT.lo false [.leaf (.row [.int .i64, .int .i64]), .leaf (.row [.int .i64])] x = TT.un [.leaf .slice, .leaf .slice] ((rowSV false [.int .i64, .int .i64] x.1), (rowSV false [.int .i64] x.2)) from rfl, share_with.eq]
  rfl
noncomputable def share_withP.e : Entry := mkP [.leaf (.row [.int .i64, .int .i64]), .leaf (.row [.int .i64])] (.one (.leaf (.row [.int .i64, .int .i64]))) fun x => share_withP x.1 x.2
theorem share_withP.ok : EntryOK Try.prog 40 (share_withP.e) := mkP_ok (share_with.tbok) Try.mixed Try.func40 (by kernel_rfl) share_withP.eq

/-! ### spile/share.Take: function 14 -/
noncomputable def share_Take.tb : Table := tab [(12, share_SumP.e), (37, share_amountsP.e), (39, proportion_DrawP.e), (40, share_withP.e)] [] Table.nil
theorem share_Take.tbok : TabOK Try.prog (share_Take.tb) := TabOK.tab (TabOK.nil Try.prog) (all_cons share_SumP.ok (all_cons share_amountsP.ok (all_cons proportion_DrawP.ok (all_cons share_withP.ok (all_nil _))))) (all_nil _)
noncomputable def share_Take (a0 : SV) (a1 : Int) (h : H) : Option ((SV × SV × Int) × H) :=
((rdRow true h [.int .i64, .int .i64] a0).bind fun s3 =>
((share_SumP s3).bind fun (r1, r2) =>
(bif (!(decide (r2 = 0))) then (some ((⟨.nil, 0, 0, false⟩, ⟨.nil, 0, 0, false⟩, r2), h)) else (bif (decide (a1 < 0)) then (some ((⟨.nil, 0, 0, false⟩, ⟨.nil, 0, 0, false⟩, 2), h)) else (bif (decide (r1 < a1)) then (some ((⟨.nil, 0, 0, false⟩, ⟨.nil, 0, 0, false⟩, 17), h)) else (bif (decide (((a0.len : Nat) : Int) = 0)) then (some ((⟨.nil, 0, 0, false⟩, ⟨.nil, 0, 0, false⟩, 0), h)) else ((rdRow true h [.int .i64, .int .i64] a0).bind fun s6 =>
((share_amountsP s6).bind fun (r4, r5) =>
((rdRow true h [.int .i64] (rowSV true [.int .i64] r4)).bind fun s10 =>
((proportion_DrawP s10 a1).bind fun (r7, r8, r9) =>
((rdRow true h [.int .i64, .int .i64] a0).bind fun s12 =>
((rdRow true h [.int .i64] (rowSV true [.int .i64] r7)).bind fun s13 =>
((share_withP s12 s13).bind fun r11 =>
((rdRow true h [.int .i64, .int .i64] a0).bind fun s15 =>
((rdRow true h [.int .i64] (rowSV true [.int .i64] r8)).bind fun s16 =>
((share_withP s15 s16).bind fun r14 =>
(some (((rowSV true [.int .i64, .int .i64] r11), (rowSV true [.int .i64, .int .i64] r14), 0), h))))))))))))))))))
def share_Take.A : Ann := { lits := [], conds := [], loops := [], regs := [] }
theorem share_Take.eq : ∀ (x : TT [.leaf .slice, .leaf (.int .i64)]) (h : H), evalFn Try.prog (share_Take.tb) share_Take.A Try.f14 (.many [.leaf .slice, .leaf .slice, .leaf (.int .i64)]) (TT.un [.leaf .slice, .leaf (.int .i64)] x) h = share_Take x.1 x.2 h := by
  intro x h
  kernel_rfl
noncomputable def share_Take.e : Entry := mkX [.leaf .slice, .leaf (.int .i64)] (.many [.leaf .slice, .leaf .slice, .leaf (.int .i64)]) fun x h => share_Take x.1 x.2 h
theorem share_Take.ok : EntryOK Try.prog 14 (share_Take.e) := mkX_ok (share_Take.tbok) Try.mixed Try.func14 (by kernel_rfl) (share_Take.eq)
noncomputable def share_TakeP (a0 : (List (Int × Int))) (a1 : Int) : Option ((List (Int × Int)) × (List (Int × Int)) × Int) := (share_Take (rowSV false [.int .i64, .int .i64] a0) a1 H.empty).bind fun p => rdRes false p.2 (.many [.leaf (.row [.int .i64, .int .i64]), .leaf (.row [.int .i64, .int .i64]), .leaf (.int .i64)]) (Res.un (.many [.leaf .slice, .leaf .slice, .leaf (.int .i64)]) p.1)
theorem share_TakeP.eq : ∀ x : TT [.leaf (.row [.int .i64, .int .i64]), .leaf (.int .i64)], ((evalFn Try.prog (share_Take.tb) share_Take.A Try.f14 (.many [.leaf .slice, .leaf .slice, .leaf (.int .i64)]) (TT.lo false [.leaf (.row [.int .i64, .int .i64]), .leaf (.int .i64)] x) H.empty).bind fun p => rdRes false p.2 (.many [.leaf (.row [.int .i64, .int .i64]), .leaf (.row [.int .i64, .int .i64]), .leaf (.int .i64)]) (Res.un (.many [.leaf .slice, .leaf .slice, .leaf (.int .i64)]) p.1)) = share_TakeP x.1 x.2 := by
  intro x
  rw [show TT.lo false [.leaf (.row [.int .i64, .int .i64]), .leaf (.int .i64)] x = TT.un [.leaf .slice, .leaf (.int .i64)] ((rowSV false [.int .i64, .int .i64] x.1), x.2) from rfl, share_Take.eq]
  rfl
noncomputable def share_TakeP.e : Entry := mkP [.leaf (.row [.int .i64, .int .i64]), .leaf (.int .i64)] (.many [.leaf (.row [.int .i64, .int .i64]), .leaf (.row [.int .i64, .int .i64]), .leaf (.int .i64)]) fun x => share_TakeP x.1 x.2
theorem share_TakeP.ok : EntryOK Try.prog 14 (share_TakeP.e) := mkP_ok (share_Take.tbok) Try.mixed Try.func14 (by kernel_rfl) share_TakeP.eq

/-! ### spile/share.Parts: function 16 -/
noncomputable def share_Parts.tb : Table := tab [(18, share_CheckP.e), (37, share_amountsP.e), (42, proportion_DivideP.e)] [] Table.nil
theorem share_Parts.tbok : TabOK Try.prog (share_Parts.tb) := TabOK.tab (TabOK.nil Try.prog) (all_cons share_CheckP.ok (all_cons share_amountsP.ok (all_cons proportion_DivideP.ok (all_nil _)))) (all_nil _)
noncomputable def share_Parts (a0 : SV) (a1 : Int) (h : H) : Option ((SV × Int) × H) :=
((rdRow true h [.int .i64, .int .i64] a0).bind fun s2 =>
((share_CheckP s2).bind fun r1 =>
(bif (!(decide (r1 = 0))) then (some ((⟨.nil, 0, 0, false⟩, 1), h)) else (((bif !(decide (a1 < 0)) then (some ((decide ((128849018880000 : Int) < a1)), h)) else (some (true, h)))).bind fun (y3, h4) =>
(bif y3 then (some ((⟨.nil, 0, 0, false⟩, 2), h4)) else (bif (decide (((a0.len : Nat) : Int) = 0)) then (some ((⟨.nil, 0, 0, false⟩, 9), h4)) else ((rdRow true h4 [.int .i64, .int .i64] a0).bind fun s7 =>
((share_amountsP s7).bind fun (r5, r6) =>
((rdRow true h4 [.int .i64] (rowSV true [.int .i64] r5)).bind fun s10 =>
((proportion_DivideP a1 s10).bind fun (r8, r9) =>
(some (((rowSV true [.int .i64] r8), r9), h4))))))))))))
def share_Parts.A : Ann := { lits := [], conds := [], loops := [], regs := [(3, [12], [.leaf .bool])] }
theorem share_Parts.eq : ∀ (x : TT [.leaf .slice, .leaf (.int .i64)]) (h : H), evalFn Try.prog (share_Parts.tb) share_Parts.A Try.f16 (.many [.leaf .slice, .leaf (.int .i64)]) (TT.un [.leaf .slice, .leaf (.int .i64)] x) h = share_Parts x.1 x.2 h := by
  intro x h
  kernel_rfl
noncomputable def share_Parts.e : Entry := mkX [.leaf .slice, .leaf (.int .i64)] (.many [.leaf .slice, .leaf (.int .i64)]) fun x h => share_Parts x.1 x.2 h
theorem share_Parts.ok : EntryOK Try.prog 16 (share_Parts.e) := mkX_ok (share_Parts.tbok) Try.mixed Try.func16 (by kernel_rfl) (share_Parts.eq)
noncomputable def share_PartsP (a0 : (List (Int × Int))) (a1 : Int) : Option ((List (Int)) × Int) := (share_Parts (rowSV false [.int .i64, .int .i64] a0) a1 H.empty).bind fun p => rdRes false p.2 (.many [.leaf (.row [.int .i64]), .leaf (.int .i64)]) (Res.un (.many [.leaf .slice, .leaf (.int .i64)]) p.1)
theorem share_PartsP.eq : ∀ x : TT [.leaf (.row [.int .i64, .int .i64]), .leaf (.int .i64)], ((evalFn Try.prog (share_Parts.tb) share_Parts.A Try.f16 (.many [.leaf .slice, .leaf (.int .i64)]) (TT.lo false [.leaf (.row [.int .i64, .int .i64]), .leaf (.int .i64)] x) H.empty).bind fun p => rdRes false p.2 (.many [.leaf (.row [.int .i64]), .leaf (.int .i64)]) (Res.un (.many [.leaf .slice, .leaf (.int .i64)]) p.1)) = share_PartsP x.1 x.2 := by
  intro x
  rw [show TT.lo false [.leaf (.row [.int .i64, .int .i64]), .leaf (.int .i64)] x = TT.un [.leaf .slice, .leaf (.int .i64)] ((rowSV false [.int .i64, .int .i64] x.1), x.2) from rfl, share_Parts.eq]
  rfl
noncomputable def share_PartsP.e : Entry := mkP [.leaf (.row [.int .i64, .int .i64]), .leaf (.int .i64)] (.many [.leaf (.row [.int .i64]), .leaf (.int .i64)]) fun x => share_PartsP x.1 x.2
theorem share_PartsP.ok : EntryOK Try.prog 16 (share_PartsP.e) := mkP_ok (share_Parts.tbok) Try.mixed Try.func16 (by kernel_rfl) share_PartsP.eq
end Go.Proofs.Ytbcpdecgfdlaaaa
