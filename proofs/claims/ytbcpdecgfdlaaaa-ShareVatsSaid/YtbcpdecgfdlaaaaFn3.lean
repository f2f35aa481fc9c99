/- The functions of the program as Lean functions, each with the equation by which the evaluator is that function. Written by a program of this session (evdrive.py). Conditions: none. -/
import Derived.Test.YtbcpdecgfdlaaaaProg
import Derived.Test.YtbcpdecgfdlaaaaEvSpec
import Derived.Test.YtbcpdecgfdlaaaaFn2
namespace Go.Proofs.Ytbcpdecgfdlaaaa
open Go Go.Proofs.Ytbcpdecgfdlaaaa.Ev
set_option maxRecDepth 100000
set_option linter.unusedVariables false
/-! ### slices.Equal[[]int,int]: function 21 -/
noncomputable def slices_Equal_int_int.tb : Table := tab [] [] Table.nil
theorem slices_Equal_int_int.tbok : TabOK Try.prog (slices_Equal_int_int.tb) := TabOK.tab (TabOK.nil Try.prog) (all_nil _) (all_nil _)
noncomputable def slices_Equal_int_int.loop1 (a0 : SV) (a1 : SV) : (Int) × H → Option (Stp ((Int) × H) (Flow (Unit) (Bool) × H)) := fun (y1, h2) =>
(bif (decide (y1 < ((a0.len : Nat) : Int))) then (let h3 : H := H.reserve h2 0
(guardO (0 ≤ y1 ∧ y1 < ((a0.len : Nat) : Int)) ((rdT (.leaf (.int .i64)) h3 (V.add a0.a (Int.toNat y1 * 1))).bind fun x4 =>
(guardO (0 ≤ y1 ∧ y1 < ((a1.len : Nat) : Int)) ((rdT (.leaf (.int .i64)) h3 (V.add a1.a (Int.toNat y1 * 1))).bind fun x5 =>
(bif (!(decide (x4 = x5))) then (some (.done (.ret false, h3))) else (some (.more ((IntKind.wrap .i64 (y1 + 1)), h3))))))))) else (some (.done (.ex0 (), h2))))
noncomputable def slices_Equal_int_int (a0 : SV) (a1 : SV) (h : H) : Option ((Bool) × H) :=
(bif (!(decide (((a0.len : Nat) : Int) = ((a1.len : Nat) : Int)))) then (some (false, h)) else ((iter FUEL (slices_Equal_int_int.loop1 a0 a1) (0, h)).bind fun (fl7, h6) => match fl7 with
| .next _ => none
| .ret rr8 => (some (rr8, h6))
| .ex0 _ =>
(some (true, h6))
| .ex1 _ => none))
def slices_Equal_int_int.A : Ann := { lits := [], conds := [], loops := [(4, [13], [.leaf (.int .i64)], [], [], some 0, none)], regs := [] }
theorem slices_Equal_int_int.eq : ∀ (x : TT [.leaf .slice, .leaf .slice]) (h : H), evalFn Try.prog (slices_Equal_int_int.tb) slices_Equal_int_int.A Try.f21 (.one (.leaf .bool)) (TT.un [.leaf .slice, .leaf .slice] x) h = slices_Equal_int_int x.1 x.2 h := by
  intro x h
  kernel_rfl
noncomputable def slices_Equal_int_int.e : Entry := mkX [.leaf .slice, .leaf .slice] (.one (.leaf .bool)) fun x h => slices_Equal_int_int x.1 x.2 h
theorem slices_Equal_int_int.ok : EntryOK Try.prog 21 (slices_Equal_int_int.e) := mkX_ok (slices_Equal_int_int.tbok) Try.mixed Try.func21 (by kernel_rfl) (slices_Equal_int_int.eq)
noncomputable def slices_Equal_int_intP (a0 : (List (Int))) (a1 : (List (Int))) : Option (Bool) := (slices_Equal_int_int (rowSV false [.int .i64] a0) (rowSV false [.int .i64] a1) H.empty).bind fun p => rdRes false p.2 (.one (.leaf .bool)) (Res.un (.one (.leaf .bool)) p.1)
theorem slices_Equal_int_intP.eq : ∀ x : TT [.leaf (.row [.int .i64]), .leaf (.row [.int .i64])], ((evalFn Try.prog (slices_Equal_int_int.tb) slices_Equal_int_int.A Try.f21 (.one (.leaf .bool)) (TT.lo false [.leaf (.row [.int .i64]), .leaf (.row [.int .i64])] x) H.empty).bind fun p => rdRes false p.2 (.one (.leaf .bool)) (Res.un (.one (.leaf .bool)) p.1)) = slices_Equal_int_intP x.1 x.2 := by
  intro x
  rw [show TT.lo false [.leaf (.row [.int .i64]), .leaf (.row [.int .i64])] x = TT.un [.leaf .slice, .leaf .slice] ((rowSV false [.int .i64] x.1), (rowSV false [.int .i64] x.2)) from rfl, slices_Equal_int_int.eq]
  rfl
noncomputable def slices_Equal_int_intP.e : Entry := mkP [.leaf (.row [.int .i64]), .leaf (.row [.int .i64])] (.one (.leaf .bool)) fun x => slices_Equal_int_intP x.1 x.2
theorem slices_Equal_int_intP.ok : EntryOK Try.prog 21 (slices_Equal_int_intP.e) := mkP_ok (slices_Equal_int_int.tbok) Try.mixed Try.func21 (by kernel_rfl) slices_Equal_int_intP.eq

/-! ### slices.Grow[[]spile/api.Share,spile/api.Share]: function 100 -/
noncomputable def slices_Grow_api_Share_api_Share.tb : Table := tab [] [] Table.nil
theorem slices_Grow_api_Share_api_Share.tbok : TabOK Try.prog (slices_Grow_api_Share_api_Share.tb) := TabOK.tab (TabOK.nil Try.prog) (all_nil _) (all_nil _)
noncomputable def slices_Grow_api_Share_api_Share (a0 : SV) (a1 : Int) (h : H) : Option ((SV) × H) :=
((bif (decide (a1 < 0)) then none else (some (.next (), h)) : Option (Flow (Unit) (SV) × H)).bind fun (fl2, h1) => match fl2 with
| .next _ =>
(bif !a0.tail then ((bif (decide ((0 : Int) < (IntKind.wrap .i64 (a1 - (IntKind.wrap .i64 (((a0.cap : Nat) : Int) - ((a0.len : Nat) : Int))))))) then (bif !a0.tail then (guardO ((0 : Int) ≤ 0 ∧ (0 : Int) ≤ ((a0.cap : Nat) : Int) ∧ ((a0.cap : Nat) : Int) ≤ ((a0.cap : Nat) : Int)) ((guardO (0 ≤ (IntKind.wrap .i64 (a1 - (IntKind.wrap .i64 (((a0.cap : Nat) : Int) - ((a0.len : Nat) : Int))))) ∧ (IntKind.wrap .i64 (a1 - (IntKind.wrap .i64 (((a0.cap : Nat) : Int) - ((a0.len : Nat) : Int))))) ≤ roomCells ∧ 16 ≤ 2 ^ 11) (some (Int.toNat (IntKind.wrap .i64 (a1 - (IntKind.wrap .i64 (((a0.cap : Nat) : Int) - ((a0.len : Nat) : Int))))), repeatCells [.int .i64 0, .int .i64 0] (Int.toNat (IntKind.wrap .i64 (a1 - (IntKind.wrap .i64 (((a0.cap : Nat) : Int) - ((a0.len : Nat) : Int))))))))).bind fun (n5, cs5) =>
((appendS h1 none 2 16 (⟨(V.add a0.a 0), ((Int.toNat ((a0.cap : Nat) : Int)) - Int.toNat 0), (a0.cap - Int.toNat 0), a0.tail⟩) cs5 n5).bind fun (s5, h4) =>
(guardO ((0 : Int) ≤ 0 ∧ (0 : Int) ≤ ((a0.len : Nat) : Int) ∧ ((a0.len : Nat) : Int) ≤ ((s5.cap : Nat) : Int)) (some (.next ⟨(V.add s5.a 0), ((Int.toNat ((a0.len : Nat) : Int)) - Int.toNat 0), (s5.cap - Int.toNat 0), s5.tail⟩, h4)))))) else none) else (some (.next a0, h1)) : Option (Flow (SV) (SV) × H)).bind fun (fl9, h8) => match fl9 with
| .next y10 =>
(some (y10, h8))
| .ret rr11 => (some (rr11, h8))
| .ex0 _ => none
| .ex1 _ => none) else none)
| .ret rr12 => (some (rr12, h1))
| .ex0 _ => none
| .ex1 _ => none)
def slices_Grow_api_Share_api_Share.A : Ann := { lits := [], conds := [(6, [], [], none, none), (16, [0], [.leaf .slice], none, none)], loops := [], regs := [] }
theorem slices_Grow_api_Share_api_Share.eq : ∀ (x : TT [.leaf .slice, .leaf (.int .i64)]) (h : H), evalFn Try.prog (slices_Grow_api_Share_api_Share.tb) slices_Grow_api_Share_api_Share.A Try.f100 (.one (.leaf .slice)) (TT.un [.leaf .slice, .leaf (.int .i64)] x) h = slices_Grow_api_Share_api_Share x.1 x.2 h := by
  intro x h
  kernel_rfl
noncomputable def slices_Grow_api_Share_api_Share.e : Entry := mkX [.leaf .slice, .leaf (.int .i64)] (.one (.leaf .slice)) fun x h => slices_Grow_api_Share_api_Share x.1 x.2 h
theorem slices_Grow_api_Share_api_Share.ok : EntryOK Try.prog 100 (slices_Grow_api_Share_api_Share.e) := mkX_ok (slices_Grow_api_Share_api_Share.tbok) Try.mixed Try.func100 (by kernel_rfl) (slices_Grow_api_Share_api_Share.eq)
noncomputable def slices_Grow_api_Share_api_ShareP (a0 : (List (Int × Int))) (a1 : Int) : Option ((List (Int × Int))) := (slices_Grow_api_Share_api_Share (rowSV false [.int .i64, .int .i64] a0) a1 H.empty).bind fun p => rdRes false p.2 (.one (.leaf (.row [.int .i64, .int .i64]))) (Res.un (.one (.leaf .slice)) p.1)
theorem slices_Grow_api_Share_api_ShareP.eq : ∀ x : TT [.leaf (.row [.int .i64, .int .i64]), .leaf (.int .i64)], ((evalFn Try.prog (slices_Grow_api_Share_api_Share.tb) slices_Grow_api_Share_api_Share.A Try.f100 (.one (.leaf .slice)) (TT.lo false [.leaf (.row [.int .i64, .int .i64]), .leaf (.int .i64)] x) H.empty).bind fun p => rdRes false p.2 (.one (.leaf (.row [.int .i64, .int .i64]))) (Res.un (.one (.leaf .slice)) p.1)) = slices_Grow_api_Share_api_ShareP x.1 x.2 := by
  intro x
  rw [show TT.lo false [.leaf (.row [.int .i64, .int .i64]), .leaf (.int .i64)] x = TT.un [.leaf .slice, .leaf (.int .i64)] ((rowSV false [.int .i64, .int .i64] x.1), x.2) from rfl, slices_Grow_api_Share_api_Share.eq]
  rfl
noncomputable def slices_Grow_api_Share_api_ShareP.e : Entry := mkP [.leaf (.row [.int .i64, .int .i64]), .leaf (.int .i64)] (.one (.leaf (.row [.int .i64, .int .i64]))) fun x => slices_Grow_api_Share_api_ShareP x.1 x.2
theorem slices_Grow_api_Share_api_ShareP.ok : EntryOK Try.prog 100 (slices_Grow_api_Share_api_ShareP.e) := mkP_ok (slices_Grow_api_Share_api_Share.tbok) Try.mixed Try.func100 (by kernel_rfl) slices_Grow_api_Share_api_ShareP.eq

/-! ### slices.Concat[[]spile/api.Share,spile/api.Share]: function 87 -/
noncomputable def slices_Concat_api_Share_api_Share.tb : Table := tab [(100, slices_Grow_api_Share_api_Share.e)] [] Table.nil
theorem slices_Concat_api_Share_api_Share.tbok : TabOK Try.prog (slices_Concat_api_Share_api_Share.tb) := TabOK.tab (TabOK.nil Try.prog) (all_cons slices_Grow_api_Share_api_Share.ok (all_nil _)) (all_nil _)
noncomputable def slices_Concat_api_Share_api_Share.loop1 (a0 : SV) : (Int × Int) × H → Option (Stp ((Int × Int) × H) (Flow (Int) (SV) × H)) := fun ((y1, y2), h3) =>
(bif (decide (y2 < ((a0.len : Nat) : Int))) then (guardO (0 ≤ y2 ∧ y2 < ((a0.len : Nat) : Int)) ((rdT (.leaf .slice) h3 (V.add a0.a (Int.toNat y2 * 1))).bind fun x4 =>
((bif (decide ((IntKind.wrap .i64 (y1 + ((x4.len : Nat) : Int))) < 0)) then none else (some (.next (), h3)) : Option (Flow (Unit) (SV) × H)).bind fun (fl6, h5) => match fl6 with
| .next _ =>
(some (.more (((IntKind.wrap .i64 (y1 + ((x4.len : Nat) : Int))), (IntKind.wrap .i64 (y2 + 1))), h5)))
| .ret rr7 => (some (.done (.ret rr7, h5)))
| .ex0 _ => none
| .ex1 _ => none))) else (some (.done (.ex0 y1, h3))))
noncomputable def slices_Concat_api_Share_api_Share.loop2 (a0 : SV) : (SV × Int) × H → Option (Stp ((SV × Int) × H) (Flow (SV) (SV) × H)) := fun ((y14, y15), h16) =>
(bif (decide (y15 < ((a0.len : Nat) : Int))) then (guardO (0 ≤ y15 ∧ y15 < ((a0.len : Nat) : Int)) ((rdT (.leaf .slice) h16 (V.add a0.a (Int.toNat y15 * 1))).bind fun x17 =>
((cellsOf h16 (.slice x17.a x17.len x17.cap x17.tail : V) 2).bind fun (n20, cs20) =>
((appendS h16 none 2 16 y14 cs20 n20).bind fun (s20, h19) =>
(some (.more ((s20, (IntKind.wrap .i64 (y15 + 1))), h19))))))) else (some (.done (.ex0 y14, h16))))
noncomputable def slices_Concat_api_Share_api_Share (a0 : SV) (h : H) : Option ((SV) × H) :=
((iter FUEL (slices_Concat_api_Share_api_Share.loop1 a0) ((0, 0), h)).bind fun (fl9, h8) => match fl9 with
| .next _ => none
| .ret rr10 => (some (rr10, h8))
| .ex0 y11 =>
((slices_Grow_api_Share_api_Share ⟨.nil, 0, 0, false⟩ y11 h8).bind fun (r12, h13) =>
((iter FUEL (slices_Concat_api_Share_api_Share.loop2 a0) ((r12, 0), h13)).bind fun (fl24, h23) => match fl24 with
| .next _ => none
| .ret rr25 => (some (rr25, h23))
| .ex0 y26 =>
(some (y26, h23))
| .ex1 _ => none))
| .ex1 _ => none)
def slices_Concat_api_Share_api_Share.A : Ann := { lits := [], conds := [(20, [], [], none, none)], loops := [(3, [3, 11], [.leaf (.int .i64), .leaf (.int .i64)], [3], [.leaf (.int .i64)], some 0, none), (11, [6, 27], [.leaf .slice, .leaf (.int .i64)], [6], [.leaf .slice], some 2, none)], regs := [] }
theorem slices_Concat_api_Share_api_Share.eq : ∀ (x : TT [.leaf .slice]) (h : H), evalFn Try.prog (slices_Concat_api_Share_api_Share.tb) slices_Concat_api_Share_api_Share.A Try.f87 (.one (.leaf .slice)) (TT.un [.leaf .slice] x) h = slices_Concat_api_Share_api_Share x h := by
  intro x h
  kernel_rfl
noncomputable def slices_Concat_api_Share_api_Share.e : Entry := mkX [.leaf .slice] (.one (.leaf .slice)) fun x h => slices_Concat_api_Share_api_Share x h
theorem slices_Concat_api_Share_api_Share.ok : EntryOK Try.prog 87 (slices_Concat_api_Share_api_Share.e) := mkX_ok (slices_Concat_api_Share_api_Share.tbok) Try.mixed Try.func87 (by kernel_rfl) (slices_Concat_api_Share_api_Share.eq)
noncomputable def slices_Concat_api_Share_api_ShareP (a0 : (List ((List (Int × Int))))) : Option ((List (Int × Int))) := (slices_Concat_api_Share_api_Share (rowSV false [.row [.int .i64, .int .i64]] a0) H.empty).bind fun p => rdRes false p.2 (.one (.leaf (.row [.int .i64, .int .i64]))) (Res.un (.one (.leaf .slice)) p.1)
theorem slices_Concat_api_Share_api_ShareP.eq : ∀ x : TT [.leaf (.row [.row [.int .i64, .int .i64]])], ((evalFn Try.prog (slices_Concat_api_Share_api_Share.tb) slices_Concat_api_Share_api_Share.A Try.f87 (.one (.leaf .slice)) (TT.lo false [.leaf (.row [.row [.int .i64, .int .i64]])] x) H.empty).bind fun p => rdRes false p.2 (.one (.leaf (.row [.int .i64, .int .i64]))) (Res.un (.one (.leaf .slice)) p.1)) = slices_Concat_api_Share_api_ShareP x := by
  intro x
  rw [show TT.lo false [.leaf (.row [.row [.int .i64, .int .i64]])] x = TT.un [.leaf .slice] ((rowSV false [.row [.int .i64, .int .i64]] x)) from rfl, slices_Concat_api_Share_api_Share.eq]
  rfl
noncomputable def slices_Concat_api_Share_api_ShareP.e : Entry := mkP [.leaf (.row [.row [.int .i64, .int .i64]])] (.one (.leaf (.row [.int .i64, .int .i64]))) fun x => slices_Concat_api_Share_api_ShareP x
theorem slices_Concat_api_Share_api_ShareP.ok : EntryOK Try.prog 87 (slices_Concat_api_Share_api_ShareP.e) := mkP_ok (slices_Concat_api_Share_api_Share.tbok) Try.mixed Try.func87 (by kernel_rfl) slices_Concat_api_Share_api_ShareP.eq

/-! ### spile/share.joined$1: function 88 -/
noncomputable def share_joined_1.tb (T : Table) : Table := tab [] [] T
theorem share_joined_1.tbok (T : Table) (hT : TabOK Try.prog T) : TabOK Try.prog (share_joined_1.tb T) := TabOK.tab (hT) (all_nil _) (all_nil _)
noncomputable def share_joined_1.loop1 (T : Table) (a0 : V) (a1 : V) (a2 : V) (a3 : V) : (Unit) × H → Option (Stp ((Unit) × H) (Flow (Unit) (Unit) × H)) := fun (_, h1) =>
((((rdT (.leaf .slice) h1 a1).bind fun x2 =>
(bif !(decide ((0 : Int) < ((x2.len : Nat) : Int))) then ((rdT (.leaf .slice) h1 a2).bind fun x3 =>
(some ((decide ((0 : Int) < ((x3.len : Nat) : Int))), h1))) else (some (true, h1))))).bind fun (y4, h5) =>
(bif y4 then (((let h6 : H := H.reserve h5 0
((rdT (.leaf .slice) h6 a2).bind fun x7 =>
(bif !(decide (((x7.len : Nat) : Int) = 0)) then ((rdT (.leaf .slice) h6 a1).bind fun x8 =>
(bif (decide ((0 : Int) < ((x8.len : Nat) : Int))) then ((rdT (.leaf .slice) h6 a1).bind fun x9 =>
(guardO (0 ≤ (0 : Int) ∧ 0 < ((x9.len : Nat) : Int)) (guardO (V.nn ((V.add x9.a 0) : V) = true) ((rdT (.leaf (.int .i64)) h6 (V.add (V.add x9.a 0) 0)).bind fun x10 =>
((rdT (.leaf .slice) h6 a2).bind fun x11 =>
(guardO (0 ≤ (0 : Int) ∧ 0 < ((x11.len : Nat) : Int)) (guardO (V.nn ((V.add x11.a 0) : V) = true) ((rdT (.leaf (.int .i64)) h6 (V.add (V.add x11.a 0) 0)).bind fun x12 =>
(some ((decide (x10 < x12)), h6)))))))))) else (some (false, h6)))) else (some (true, h6)))))).bind fun (y13, h14) =>
((bif y13 then (let h15 : H := H.reserve h14 0
((rdT (.leaf .slice) h15 a1).bind fun x16 =>
(guardO (0 ≤ (0 : Int) ∧ 0 < ((x16.len : Nat) : Int)) (guardO (V.nn ((V.add x16.a 0) : V) = true) ((rdT (.leaf (.int .i64)) h15 (V.add (V.add x16.a 0) 0)).bind fun x17 =>
((rdT (.leaf .slice) h15 a1).bind fun x18 =>
(guardO ((0 : Int) ≤ 1 ∧ (1 : Int) ≤ ((x18.len : Nat) : Int) ∧ ((x18.len : Nat) : Int) ≤ ((x18.cap : Nat) : Int)) ((H.wrs h15 a1 [.slice (V.add x18.a ((Int.toNat 1) * 2)) ((Int.toNat ((x18.len : Nat) : Int)) - (Int.toNat 1)) (x18.cap - (Int.toNat 1)) x18.tail]).bind fun h19 =>
(some (.next x17, h19)))))))))) else (((let h20 : H := H.reserve h14 0
((rdT (.leaf .slice) h20 a1).bind fun x21 =>
(bif !(decide (((x21.len : Nat) : Int) = 0)) then ((rdT (.leaf .slice) h20 a2).bind fun x22 =>
(guardO (0 ≤ (0 : Int) ∧ 0 < ((x22.len : Nat) : Int)) (guardO (V.nn ((V.add x22.a 0) : V) = true) ((rdT (.leaf (.int .i64)) h20 (V.add (V.add x22.a 0) 0)).bind fun x23 =>
((rdT (.leaf .slice) h20 a1).bind fun x24 =>
(guardO (0 ≤ (0 : Int) ∧ 0 < ((x24.len : Nat) : Int)) (guardO (V.nn ((V.add x24.a 0) : V) = true) ((rdT (.leaf (.int .i64)) h20 (V.add (V.add x24.a 0) 0)).bind fun x25 =>
(some ((decide (x23 < x25)), h20)))))))))) else (some (true, h20)))))).bind fun (y26, h27) =>
((bif y26 then (let h28 : H := H.reserve h27 0
((rdT (.leaf .slice) h28 a2).bind fun x29 =>
(guardO (0 ≤ (0 : Int) ∧ 0 < ((x29.len : Nat) : Int)) (guardO (V.nn ((V.add x29.a 0) : V) = true) ((rdT (.leaf (.int .i64)) h28 (V.add (V.add x29.a 0) 0)).bind fun x30 =>
((rdT (.leaf .slice) h28 a2).bind fun x31 =>
(guardO ((0 : Int) ≤ 1 ∧ (1 : Int) ≤ ((x31.len : Nat) : Int) ∧ ((x31.len : Nat) : Int) ≤ ((x31.cap : Nat) : Int)) ((H.wrs h28 a2 [.slice (V.add x31.a ((Int.toNat 1) * 2)) ((Int.toNat ((x31.len : Nat) : Int)) - (Int.toNat 1)) (x31.cap - (Int.toNat 1)) x31.tail]).bind fun h32 =>
(some (.next x30, h32)))))))))) else (let h33 : H := H.reserve h27 0
((rdT (.leaf .slice) h33 a1).bind fun x34 =>
(guardO (0 ≤ (0 : Int) ∧ 0 < ((x34.len : Nat) : Int)) (guardO (V.nn ((V.add x34.a 0) : V) = true) ((rdT (.leaf (.int .i64)) h33 (V.add (V.add x34.a 0) 0)).bind fun x35 =>
((rdT (.leaf .slice) h33 a1).bind fun x36 =>
(guardO ((0 : Int) ≤ 1 ∧ (1 : Int) ≤ ((x36.len : Nat) : Int) ∧ ((x36.len : Nat) : Int) ≤ ((x36.cap : Nat) : Int)) ((rdT (.leaf .slice) h33 a2).bind fun x37 =>
(guardO ((0 : Int) ≤ 1 ∧ (1 : Int) ≤ ((x37.len : Nat) : Int) ∧ ((x37.len : Nat) : Int) ≤ ((x37.cap : Nat) : Int)) ((H.wrs h33 a1 [.slice (V.add x36.a ((Int.toNat 1) * 2)) ((Int.toNat ((x36.len : Nat) : Int)) - (Int.toNat 1)) (x36.cap - (Int.toNat 1)) x36.tail]).bind fun h38 =>
((H.wrs h38 a2 [.slice (V.add x37.a ((Int.toNat 1) * 2)) ((Int.toNat ((x37.len : Nat) : Int)) - (Int.toNat 1)) (x37.cap - (Int.toNat 1)) x37.tail]).bind fun h39 =>
(guardO (apartA (a2 : V) (a1 : V) = true) (some (.next x35, h39)))))))))))))) : Option (Flow (Int) (Unit) × H)).bind fun (fl41, h40) => match fl41 with
| .next y42 =>
(some (.next y42, h40))
| .ret rr43 => (some (.ret rr43, h40))
| .ex0 _ => none
| .ex1 _ => none)) : Option (Flow (Int) (Unit) × H)).bind fun (fl45, h44) => match fl45 with
| .next y46 =>
((rdT (.leaf .map) h44 a3).bind fun x47 =>
(match (x47 : Option Nat) with
| none => none
| some r49 => ((H.imap h44 r49 .i64 .i64).bind fun es48 =>
(callV T.dy a0 [.int .i64 y46, .int .i64 ((getM y46 es48).getD 0)] h44 fun v50 h51 =>
(Res.pack (.one (.leaf .bool)) v50).bind fun r52 =>
(bif (!r52) then (some (.done (.ret (), h51))) else (some (.more ((), h51))))))))
| .ret rr53 => (some (.done (.ret rr53, h44)))
| .ex0 _ => none
| .ex1 _ => none)) else (some (.done (.ex0 (), h5)))))
noncomputable def share_joined_1 (T : Table) (a0 : V) (a1 : V) (a2 : V) (a3 : V) (h : H) : Option ((Unit) × H) :=
((iter FUEL (share_joined_1.loop1 T a0 a1 a2 a3) ((), h)).bind fun (fl55, h54) => match fl55 with
| .next _ => none
| .ret rr56 => (some (rr56, h54))
| .ex0 _ =>
(some ((), h54))
| .ex1 _ => none)
def share_joined_1.A : Ann := { lits := [], conds := [(22, [5], [.leaf (.int .i64)], none, none), (48, [5], [.leaf (.int .i64)], none, none)], loops := [(0, [], [], [], [], some 0, none)], regs := [(0, [13], [.leaf .bool]), (3, [22], [.leaf .bool]), (5, [48], [.leaf .bool])] }
theorem share_joined_1.eq (T : Table) : ∀ (x : TT [.leaf .dyn, .leaf .ptr, .leaf .ptr, .leaf .ptr]) (h : H), evalFn Try.prog (share_joined_1.tb T) share_joined_1.A Try.f88 (.many []) (TT.un [.leaf .dyn, .leaf .ptr, .leaf .ptr, .leaf .ptr] x) h = share_joined_1 T x.1 x.2.1 x.2.2.1 x.2.2.2 h := by
  intro x h
  kernel_rfl
theorem share_joined_1.tbokW (T : Table) (hT : TabW Try.prog T) : TabW Try.prog (share_joined_1.tb T) := TabW.tab hT (all_nil _) (all_nil _)
noncomputable def share_joined_1.it : Entry → Entry := fun Y => mkX [.leaf .dyn, .leaf .ptr, .leaf .ptr, .leaf .ptr] (.many []) fun x h => share_joined_1 (withY Table.nil Y) x.1 x.2.1 x.2.2.1 x.2.2.2 h
theorem share_joined_1.itok : ItOK Try.prog 88 share_joined_1.it := mkIt_ok (T := fun Y => share_joined_1.tb (withY Table.nil Y)) (fun Y hY => share_joined_1.tbokW _ ((TabW.nil Try.prog).withY hY)) (fun _ => rfl) Try.mixed Try.func88 (by kernel_rfl) (fun Y x h => share_joined_1.eq (withY Table.nil Y) x h) rfl
noncomputable def share_joined_1.e (T : Table) : Entry := mkX [.leaf .dyn, .leaf .ptr, .leaf .ptr, .leaf .ptr] (.many []) fun x h => share_joined_1 T x.1 x.2.1 x.2.2.1 x.2.2.2 h
theorem share_joined_1.ok (T : Table) (hT : TabOK Try.prog T) : EntryOK Try.prog 88 (share_joined_1.e T) := mkX_ok (share_joined_1.tbok T hT) Try.mixed Try.func88 (by kernel_rfl) (share_joined_1.eq T)

/-! ### spile/share.joined: function 71 -/
noncomputable def share_joined.tb : Table := tab [(87, slices_Concat_api_Share_api_Share.e)] [] Table.nil
theorem share_joined.tbok : TabOK Try.prog (share_joined.tb) := TabOK.tab (TabOK.nil Try.prog) (all_cons slices_Concat_api_Share_api_Share.ok (all_nil _)) (all_nil _)
noncomputable def share_joined.loop1 (h3 : H) (r8 : SV) : (Int) × H → Option (Stp ((Int) × H) (Flow (Unit) (V) × H)) := fun (y10, h11) =>
(bif (decide (y10 < ((r8.len : Nat) : Int))) then (guardO (0 ≤ y10 ∧ y10 < ((r8.len : Nat) : Int)) ((rdT (.agg [.int .i64, .int .i64]) h11 (V.add r8.a (Int.toNat y10 * 2))).bind fun (x12_0, x12_1) =>
(let h13 : H := H.new h11 [.int .i64 0, .int .i64 0] 2
((H.wrs h13 (.hp h11.next 2 0) [.int .i64 x12_0, .int .i64 x12_1]).bind fun h14 =>
((rdT (.leaf .map) h14 (.hp h3.next 1 0)).bind fun x15 =>
((rdT (.leaf (.int .i64)) h14 (.hp h11.next 2 0)).bind fun x16 =>
(match (x15 : Option Nat) with
| none => none
| some r18 => ((H.imap h14 r18 .i64 .i64).bind fun es17 =>
((rdT (.leaf (.int .i64)) h14 (.hp h11.next 2 1)).bind fun x19 =>
(match (x15 : Option Nat) with
| none => none
| some r22 => ((H.imap h14 r22 .i64 .i64).bind fun es20 =>
(let h21 : H := H.put h14 r22 (.imap .i64 .i64 (setM x16 (IntKind.wrap .i64 (((getM x16 es17).getD 0) + x19)) es20))
(some (.more ((IntKind.wrap .i64 (y10 + 1)), h21))))))))))))))) else (some (.done (.ex0 (), h11))))
noncomputable def share_joined (a0 : SV) (a1 : SV) (h : H) : Option ((V) × H) :=
(let h1 : H := H.new h [.slice a0.a a0.len a0.cap a0.tail] 1
(let h2 : H := H.new h1 [.slice a1.a a1.len a1.cap a1.tail] 1
(let h3 : H := H.newS h2 (.imap .i64 .i64 [])
(let h4 : H := H.new h3 [.map none] 1
((H.wrs h4 (.hp h3.next 1 0) [.map (some h2.next)]).bind fun h5 =>
((rdT (.leaf .slice) h5 (.hp h.next 1 0)).bind fun x6 =>
((rdT (.leaf .slice) h5 (.hp h1.next 1 0)).bind fun x7 =>
((slices_Concat_api_Share_api_Share ⟨.lp true ([.slice x6.a x6.len x6.cap x6.tail, .slice x7.a x7.len x7.cap x7.tail]) 0, 2, 2, false⟩ h5).bind fun (r8, h9) =>
((iter FUEL (share_joined.loop1 h3 r8) (0, h9)).bind fun (fl24, h23) => match fl24 with
| .next _ => none
| .ret rr25 => (some (rr25, h23))
| .ex0 _ =>
(some ((.func 88 [.hp h.next 1 0, .hp h1.next 1 0, .hp h3.next 1 0] : V), h23))
| .ex1 _ => none)))))))))
def share_joined.A : Ann := { lits := [], conds := [], loops := [(3, [14], [.leaf (.int .i64)], [], [], some 0, none)], regs := [] }
noncomputable def share_joined.tc : Table := tab [] [(88, share_joined_1.e (share_joined.tb))] (share_joined.tb)
theorem share_joined.tcok : TabOK Try.prog (share_joined.tc) := TabOK.tab (share_joined.tbok) (all_nil _) (all_cons (share_joined_1.ok _ (share_joined.tbok)) (all_nil _))
theorem share_joined.eq : ∀ (x : TT [.leaf .slice, .leaf .slice]) (h : H), evalFn Try.prog (share_joined.tc) share_joined.A Try.f71 (.one (.leaf .dyn)) (TT.un [.leaf .slice, .leaf .slice] x) h = share_joined x.1 x.2 h := by
  intro x h
  kernel_rfl
noncomputable def share_joined.e : Entry := mkX [.leaf .slice, .leaf .slice] (.one (.leaf .dyn)) fun x h => share_joined x.1 x.2 h
theorem share_joined.ok : EntryOK Try.prog 71 (share_joined.e) := mkX_ok (share_joined.tcok) Try.mixed Try.func71 (by kernel_rfl) (share_joined.eq)

/-! ### spile/share.union: function 45 -/
noncomputable def share_union.tb : Table := tabI [(88, share_joined_1.it)] (tab [(71, share_joined.e)] [] Table.nil)
theorem share_union.tbok : TabOK Try.prog (share_union.tb) := TabOK.tabI (TabOK.tab (TabOK.nil Try.prog) (all_cons share_joined.ok (all_nil _)) (all_nil _)) (allI_cons share_joined_1.itok (allI_nil _))
noncomputable def share_union.round1 (h : H) (h3 : H) : (Int × Int) → H → Option H := fun (y4, y5) h6 =>
((H.begin h6 h3.next).bind fun _ =>
((H.begin h6 h3.next).bind fun h7 =>
((rdT (.leaf .slice) h7 (.hp h.next 1 0)).bind fun x8 =>
((appendS h7 none 2 16 x8 [.int .i64 y4, .int .i64 y5] 1).bind fun (s11, h10) =>
((H.wrs h10 (.hp h.next 1 0) [.slice s11.a s11.len s11.cap s11.tail]).bind fun h13 =>
(H.endR h13 h3.next))))))
noncomputable def share_union (a0 : SV) (a1 : SV) (h : H) : Option ((SV) × H) :=
(let h1 : H := H.new h [.slice .nil 0 0 false] 1
((share_joined a0 a1 h1).bind fun (r2, h3) =>
((callIt (share_union.tb).dy (mkY [.leaf (.int .i64), .leaf (.int .i64)] h3.next (share_union.round1 h h3)) (r2 : V) [.yld h3.next] (H.newS h3 (.loop .ready))).bind fun h14 =>
((H.endL h14 h3.next).bind fun h15 =>
((rdT (.leaf .slice) h15 (.hp h.next 1 0)).bind fun x16 =>
(some (x16, h15)))))))
def share_union.A : Ann := { lits := [], conds := [], loops := [], regs := [], rnds := [(11, [.leaf (.int .i64), .leaf (.int .i64)])] }
theorem share_union.eq : ∀ (x : TT [.leaf .slice, .leaf .slice]) (h : H), evalFn Try.prog (share_union.tb) share_union.A Try.f45 (.one (.leaf .slice)) (TT.un [.leaf .slice, .leaf .slice] x) h = share_union x.1 x.2 h := by
  intro x h
  kernel_rfl
noncomputable def share_union.e : Entry := mkX [.leaf .slice, .leaf .slice] (.one (.leaf .slice)) fun x h => share_union x.1 x.2 h
theorem share_union.ok : EntryOK Try.prog 45 (share_union.e) := mkX_ok (share_union.tbok) Try.mixed Try.func45 (by kernel_rfl) (share_union.eq)
noncomputable def share_unionP (a0 : (List (Int × Int))) (a1 : (List (Int × Int))) : Option ((List (Int × Int))) := (share_union (rowSV false [.int .i64, .int .i64] a0) (rowSV false [.int .i64, .int .i64] a1) H.empty).bind fun p => rdRes false p.2 (.one (.leaf (.row [.int .i64, .int .i64]))) (Res.un (.one (.leaf .slice)) p.1)
theorem share_unionP.eq : ∀ x : TT [.leaf (.row [.int .i64, .int .i64]), .leaf (.row [.int .i64, .int .i64])], ((evalFn Try.prog (share_union.tb) share_union.A Try.f45 (.one (.leaf .slice)) (TT.lo false [.leaf (.row [.int .i64, .int .i64]), .leaf (.row [.int .i64, .int .i64])] x) H.empty).bind fun p => rdRes false p.2 (.one (.leaf (.row [.int .i64, .int .i64]))) (Res.un (.one (.leaf .slice)) p.1)) = share_unionP x.1 x.2 := by
  intro x
  rw [show TT.lo false [.leaf (.row [.int .i64, .int .i64]), .leaf (.row [.int .i64, .int .i64])] x = TT.un [.leaf .slice, .leaf .slice] ((rowSV false [.int .i64, .int .i64] x.1), (rowSV false [.int .i64, .int .i64] x.2)) from rfl, share_union.eq]
  rfl
noncomputable def share_unionP.e : Entry := mkP [.leaf (.row [.int .i64, .int .i64]), .leaf (.row [.int .i64, .int .i64])] (.one (.leaf (.row [.int .i64, .int .i64]))) fun x => share_unionP x.1 x.2
theorem share_unionP.ok : EntryOK Try.prog 45 (share_unionP.e) := mkP_ok (share_union.tbok) Try.mixed Try.func45 (by kernel_rfl) share_unionP.eq

/-! ### spile/share.Join: function 22 -/
noncomputable def share_Join.tb : Table := tab [(18, share_CheckP.e), (37, share_amountsP.e), (45, share_unionP.e)] [] Table.nil
theorem share_Join.tbok : TabOK Try.prog (share_Join.tb) := TabOK.tab (TabOK.nil Try.prog) (all_cons share_CheckP.ok (all_cons share_amountsP.ok (all_cons share_unionP.ok (all_nil _)))) (all_nil _)
noncomputable def share_Join (a0 : SV) (a1 : SV) (h : H) : Option ((SV × Int) × H) :=
((((rdRow true h [.int .i64, .int .i64] a0).bind fun s2 =>
((share_CheckP s2).bind fun r1 =>
(bif !(!(decide (r1 = 0))) then ((rdRow true h [.int .i64, .int .i64] a1).bind fun s4 =>
((share_CheckP s4).bind fun r3 =>
(some ((!(decide (r3 = 0))), h)))) else (some (true, h)))))).bind fun (y5, h6) =>
(bif y5 then (some ((⟨.nil, 0, 0, false⟩, 1), h6)) else ((rdRow true h6 [.int .i64, .int .i64] a0).bind fun s8 =>
((rdRow true h6 [.int .i64, .int .i64] a1).bind fun s9 =>
((share_unionP s8 s9).bind fun r7 =>
((rdRow true h6 [.int .i64, .int .i64] (rowSV true [.int .i64, .int .i64] r7)).bind fun s12 =>
((share_amountsP s12).bind fun (r10, r11) =>
(bif (decide ((32 : Int) < ((r7.length : Nat) : Int))) then (some ((⟨.nil, 0, 0, false⟩, 12), h6)) else (bif (decide ((10737418240000 : Int) < r11)) then (some ((⟨.nil, 0, 0, false⟩, 15), h6)) else (some (((rowSV true [.int .i64, .int .i64] r7), 0), h6)))))))))))
def share_Join.A : Ann := { lits := [], conds := [], loops := [], regs := [(1, [16], [.leaf .bool])] }
theorem share_Join.eq : ∀ (x : TT [.leaf .slice, .leaf .slice]) (h : H), evalFn Try.prog (share_Join.tb) share_Join.A Try.f22 (.many [.leaf .slice, .leaf (.int .i64)]) (TT.un [.leaf .slice, .leaf .slice] x) h = share_Join x.1 x.2 h := by
  intro x h
  kernel_rfl
noncomputable def share_Join.e : Entry := mkX [.leaf .slice, .leaf .slice] (.many [.leaf .slice, .leaf (.int .i64)]) fun x h => share_Join x.1 x.2 h
theorem share_Join.ok : EntryOK Try.prog 22 (share_Join.e) := mkX_ok (share_Join.tbok) Try.mixed Try.func22 (by kernel_rfl) (share_Join.eq)
noncomputable def share_JoinP (a0 : (List (Int × Int))) (a1 : (List (Int × Int))) : Option ((List (Int × Int)) × Int) := (share_Join (rowSV false [.int .i64, .int .i64] a0) (rowSV false [.int .i64, .int .i64] a1) H.empty).bind fun p => rdRes false p.2 (.many [.leaf (.row [.int .i64, .int .i64]), .leaf (.int .i64)]) (Res.un (.many [.leaf .slice, .leaf (.int .i64)]) p.1)
theorem share_JoinP.eq : ∀ x : TT [.leaf (.row [.int .i64, .int .i64]), .leaf (.row [.int .i64, .int .i64])], ((evalFn Try.prog (share_Join.tb) share_Join.A Try.f22 (.many [.leaf .slice, .leaf (.int .i64)]) (TT.lo false [.leaf (.row [.int .i64, .int .i64]), .leaf (.row [.int .i64, .int .i64])] x) H.empty).bind fun p => rdRes false p.2 (.many [.leaf (.row [.int .i64, .int .i64]), .leaf (.int .i64)]) (Res.un (.many [.leaf .slice, .leaf (.int .i64)]) p.1)) = share_JoinP x.1 x.2 := by
  intro x
  rw [show TT.lo false [.leaf (.row [.int .i64, .int .i64]), .leaf (.row [.int .i64, .int .i64])] x = TT.un [.leaf .slice, .leaf .slice] ((rowSV false [.int .i64, .int .i64] x.1), (rowSV false [.int .i64, .int .i64] x.2)) from rfl, share_Join.eq]
  rfl
noncomputable def share_JoinP.e : Entry := mkP [.leaf (.row [.int .i64, .int .i64]), .leaf (.row [.int .i64, .int .i64])] (.many [.leaf (.row [.int .i64, .int .i64]), .leaf (.int .i64)]) fun x => share_JoinP x.1 x.2
theorem share_JoinP.ok : EntryOK Try.prog 22 (share_JoinP.e) := mkP_ok (share_Join.tbok) Try.mixed Try.func22 (by kernel_rfl) share_JoinP.eq

/-! ### slices.Equal[[]spile/api.Share,spile/api.Share]: function 36 -/
noncomputable def slices_Equal_api_Share_api_Share.tb : Table := tab [] [] Table.nil
theorem slices_Equal_api_Share_api_Share.tbok : TabOK Try.prog (slices_Equal_api_Share_api_Share.tb) := TabOK.tab (TabOK.nil Try.prog) (all_nil _) (all_nil _)
noncomputable def slices_Equal_api_Share_api_Share.loop1 (a0 : SV) (a1 : SV) : (Int) × H → Option (Stp ((Int) × H) (Flow (Unit) (Bool) × H)) := fun (y1, h2) =>
(bif (decide (y1 < ((a0.len : Nat) : Int))) then (let h3 : H := H.reserve h2 0
(guardO (0 ≤ y1 ∧ y1 < ((a0.len : Nat) : Int)) ((rdT (.agg [.int .i64, .int .i64]) h3 (V.add a0.a (Int.toNat y1 * 2))).bind fun (x4_0, x4_1) =>
(guardO (0 ≤ y1 ∧ y1 < ((a1.len : Nat) : Int)) ((rdT (.agg [.int .i64, .int .i64]) h3 (V.add a1.a (Int.toNat y1 * 2))).bind fun (x5_0, x5_1) =>
(bif (!(decide (x4_0 = x5_0) && (decide (x4_1 = x5_1)))) then (some (.done (.ret false, h3))) else (some (.more ((IntKind.wrap .i64 (y1 + 1)), h3))))))))) else (some (.done (.ex0 (), h2))))
noncomputable def slices_Equal_api_Share_api_Share (a0 : SV) (a1 : SV) (h : H) : Option ((Bool) × H) :=
(bif (!(decide (((a0.len : Nat) : Int) = ((a1.len : Nat) : Int)))) then (some (false, h)) else ((iter FUEL (slices_Equal_api_Share_api_Share.loop1 a0 a1) (0, h)).bind fun (fl7, h6) => match fl7 with
| .next _ => none
| .ret rr8 => (some (rr8, h6))
| .ex0 _ =>
(some (true, h6))
| .ex1 _ => none))
def slices_Equal_api_Share_api_Share.A : Ann := { lits := [], conds := [], loops := [(4, [13], [.leaf (.int .i64)], [], [], some 0, none)], regs := [] }
theorem slices_Equal_api_Share_api_Share.eq : ∀ (x : TT [.leaf .slice, .leaf .slice]) (h : H), evalFn Try.prog (slices_Equal_api_Share_api_Share.tb) slices_Equal_api_Share_api_Share.A Try.f36 (.one (.leaf .bool)) (TT.un [.leaf .slice, .leaf .slice] x) h = slices_Equal_api_Share_api_Share x.1 x.2 h := by
  intro x h
  kernel_rfl
noncomputable def slices_Equal_api_Share_api_Share.e : Entry := mkX [.leaf .slice, .leaf .slice] (.one (.leaf .bool)) fun x h => slices_Equal_api_Share_api_Share x.1 x.2 h
theorem slices_Equal_api_Share_api_Share.ok : EntryOK Try.prog 36 (slices_Equal_api_Share_api_Share.e) := mkX_ok (slices_Equal_api_Share_api_Share.tbok) Try.mixed Try.func36 (by kernel_rfl) (slices_Equal_api_Share_api_Share.eq)
noncomputable def slices_Equal_api_Share_api_ShareP (a0 : (List (Int × Int))) (a1 : (List (Int × Int))) : Option (Bool) := (slices_Equal_api_Share_api_Share (rowSV false [.int .i64, .int .i64] a0) (rowSV false [.int .i64, .int .i64] a1) H.empty).bind fun p => rdRes false p.2 (.one (.leaf .bool)) (Res.un (.one (.leaf .bool)) p.1)
theorem slices_Equal_api_Share_api_ShareP.eq : ∀ x : TT [.leaf (.row [.int .i64, .int .i64]), .leaf (.row [.int .i64, .int .i64])], ((evalFn Try.prog (slices_Equal_api_Share_api_Share.tb) slices_Equal_api_Share_api_Share.A Try.f36 (.one (.leaf .bool)) (TT.lo false [.leaf (.row [.int .i64, .int .i64]), .leaf (.row [.int .i64, .int .i64])] x) H.empty).bind fun p => rdRes false p.2 (.one (.leaf .bool)) (Res.un (.one (.leaf .bool)) p.1)) = slices_Equal_api_Share_api_ShareP x.1 x.2 := by
  intro x
  rw [show TT.lo false [.leaf (.row [.int .i64, .int .i64]), .leaf (.row [.int .i64, .int .i64])] x = TT.un [.leaf .slice, .leaf .slice] ((rowSV false [.int .i64, .int .i64] x.1), (rowSV false [.int .i64, .int .i64] x.2)) from rfl, slices_Equal_api_Share_api_Share.eq]
  rfl
noncomputable def slices_Equal_api_Share_api_ShareP.e : Entry := mkP [.leaf (.row [.int .i64, .int .i64]), .leaf (.row [.int .i64, .int .i64])] (.one (.leaf .bool)) fun x => slices_Equal_api_Share_api_ShareP x.1 x.2
theorem slices_Equal_api_Share_api_ShareP.ok : EntryOK Try.prog 36 (slices_Equal_api_Share_api_ShareP.e) := mkP_ok (slices_Equal_api_Share_api_Share.tbok) Try.mixed Try.func36 (by kernel_rfl) slices_Equal_api_Share_api_ShareP.eq

/-! ### spile/spilelaw23.awake: function 10 -/
noncomputable def spilelaw23_awake.tb : Table := tab [(14, share_TakeP.e), (16, share_PartsP.e), (21, slices_Equal_int_intP.e), (22, share_JoinP.e), (36, slices_Equal_api_Share_api_ShareP.e)] [] Table.nil
theorem spilelaw23_awake.tbok : TabOK Try.prog (spilelaw23_awake.tb) := TabOK.tab (TabOK.nil Try.prog) (all_cons share_TakeP.ok (all_cons share_PartsP.ok (all_cons slices_Equal_int_intP.ok (all_cons share_JoinP.ok (all_cons slices_Equal_api_Share_api_ShareP.ok (all_nil _)))))) (all_nil _)
noncomputable def spilelaw23_awake (h : H) : Option ((Bool) × H) :=
((rdRow true h [.int .i64, .int .i64] ⟨.lp true ([.int .i64 2, .int .i64 10, .int .i64 5, .int .i64 21]) 0, 2, 2, false⟩).bind fun s4 =>
((share_TakeP s4 10).bind fun (r1, r2, r3) =>
((rdRow true h [.int .i64, .int .i64] ⟨.lp true ([.int .i64 2, .int .i64 10, .int .i64 5, .int .i64 21]) 0, 2, 2, false⟩).bind fun s7 =>
((rdRow true h [.int .i64, .int .i64] ⟨.lp true ([.int .i64 1, .int .i64 4, .int .i64 5, .int .i64 1]) 0, 2, 2, false⟩).bind fun s8 =>
((share_JoinP s7 s8).bind fun (r5, r6) =>
((rdRow true h [.int .i64, .int .i64] ⟨.lp true ([.int .i64 2, .int .i64 10, .int .i64 5, .int .i64 20]) 0, 2, 2, false⟩).bind fun s11 =>
((share_PartsP s11 100).bind fun (r9, r10) =>
(((bif (decide (r3 = 0)) then ((rdRow true h [.int .i64, .int .i64] (rowSV true [.int .i64, .int .i64] r1)).bind fun s13 =>
((rdRow true h [.int .i64, .int .i64] ⟨.lp true ([.int .i64 2, .int .i64 3, .int .i64 5, .int .i64 7]) 0, 2, 2, false⟩).bind fun s14 =>
((slices_Equal_api_Share_api_ShareP s13 s14).bind fun r12 =>
(bif r12 then ((rdRow true h [.int .i64, .int .i64] (rowSV true [.int .i64, .int .i64] r2)).bind fun s16 =>
((rdRow true h [.int .i64, .int .i64] ⟨.lp true ([.int .i64 2, .int .i64 7, .int .i64 5, .int .i64 14]) 0, 2, 2, false⟩).bind fun s17 =>
((slices_Equal_api_Share_api_ShareP s16 s17).bind fun r15 =>
(bif r15 then (bif (decide (r6 = 0)) then ((rdRow true h [.int .i64, .int .i64] (rowSV true [.int .i64, .int .i64] r5)).bind fun s19 =>
((rdRow true h [.int .i64, .int .i64] ⟨.lp true ([.int .i64 1, .int .i64 4, .int .i64 2, .int .i64 10, .int .i64 5, .int .i64 22]) 0, 3, 3, false⟩).bind fun s20 =>
((slices_Equal_api_Share_api_ShareP s19 s20).bind fun r18 =>
(bif r18 then (bif (decide (r10 = 0)) then ((rdRow true h [.int .i64] (rowSV true [.int .i64] r9)).bind fun s22 =>
((rdRow true h [.int .i64] ⟨.lp true ([.int .i64 33, .int .i64 67]) 0, 2, 2, false⟩).bind fun s23 =>
((slices_Equal_int_intP s22 s23).bind fun r21 =>
(some (r21, h))))) else (some (false, h))) else (some (false, h)))))) else (some (false, h))) else (some (false, h)))))) else (some (false, h)))))) else (some (false, h)))).bind fun (y24, h25) =>
(some (y24, h25))))))))))
def spilelaw23_awake.A : Ann := { lits := [], conds := [], loops := [], regs := [(5, [0], [.leaf .bool])] }
theorem spilelaw23_awake.eq : ∀ (x : TT []) (h : H), evalFn Try.prog (spilelaw23_awake.tb) spilelaw23_awake.A Try.f10 (.one (.leaf .bool)) (TT.un [] x) h = spilelaw23_awake  h := by
  intro x h
  kernel_rfl
noncomputable def spilelaw23_awake.e : Entry := mkX [] (.one (.leaf .bool)) fun x h => spilelaw23_awake  h
theorem spilelaw23_awake.ok : EntryOK Try.prog 10 (spilelaw23_awake.e) := mkX_ok (spilelaw23_awake.tbok) Try.mixed Try.func10 (by kernel_rfl) (spilelaw23_awake.eq)
noncomputable def spilelaw23_awakeP : Option (Bool) := (spilelaw23_awake H.empty).bind fun p => rdRes false p.2 (.one (.leaf .bool)) (Res.un (.one (.leaf .bool)) p.1)
theorem spilelaw23_awakeP.eq : ∀ x : TT [], ((evalFn Try.prog (spilelaw23_awake.tb) spilelaw23_awake.A Try.f10 (.one (.leaf .bool)) (TT.lo false [] x) H.empty).bind fun p => rdRes false p.2 (.one (.leaf .bool)) (Res.un (.one (.leaf .bool)) p.1)) = spilelaw23_awakeP  := by
  intro x
  rw [show TT.lo false [] x = TT.un [] () from rfl, spilelaw23_awake.eq]
  rfl
noncomputable def spilelaw23_awakeP.e : Entry := mkP [] (.one (.leaf .bool)) fun x => spilelaw23_awakeP 
theorem spilelaw23_awakeP.ok : EntryOK Try.prog 10 (spilelaw23_awakeP.e) := mkP_ok (spilelaw23_awake.tbok) Try.mixed Try.func10 (by kernel_rfl) spilelaw23_awakeP.eq

/-! ### spile/spileref22.FewShares: function 11 -/
noncomputable def spileref22_FewShares.tb : Table := tab [] [] Table.nil
theorem spileref22_FewShares.tbok : TabOK Try.prog (spileref22_FewShares.tb) := TabOK.tab (TabOK.nil Try.prog) (all_nil _) (all_nil _)
noncomputable def spileref22_FewShares (a0 : SV) (h : H) : Option ((Bool) × H) :=
(((bif !(decide (((a0.len : Nat) : Int) ≤ 12)) then (bif (decide ((32 : Int) < ((a0.len : Nat) : Int))) then (some ((decide (((a0.len : Nat) : Int) ≤ 37)), h)) else (some (false, h))) else (some (true, h)))).bind fun (y1, h2) =>
(some (y1, h2)))
def spileref22_FewShares.A : Ann := { lits := [], conds := [], loops := [], regs := [(1, [2], [.leaf .bool])] }
theorem spileref22_FewShares.eq : ∀ (x : TT [.leaf .slice]) (h : H), evalFn Try.prog (spileref22_FewShares.tb) spileref22_FewShares.A Try.f11 (.one (.leaf .bool)) (TT.un [.leaf .slice] x) h = spileref22_FewShares x h := by
  intro x h
  kernel_rfl
noncomputable def spileref22_FewShares.e : Entry := mkX [.leaf .slice] (.one (.leaf .bool)) fun x h => spileref22_FewShares x h
theorem spileref22_FewShares.ok : EntryOK Try.prog 11 (spileref22_FewShares.e) := mkX_ok (spileref22_FewShares.tbok) Try.mixed Try.func11 (by kernel_rfl) (spileref22_FewShares.eq)
noncomputable def spileref22_FewSharesP (a0 : (List (Int × Int))) : Option (Bool) := (spileref22_FewShares (rowSV false [.int .i64, .int .i64] a0) H.empty).bind fun p => rdRes false p.2 (.one (.leaf .bool)) (Res.un (.one (.leaf .bool)) p.1)
theorem spileref22_FewSharesP.eq : ∀ x : TT [.leaf (.row [.int .i64, .int .i64])], ((evalFn Try.prog (spileref22_FewShares.tb) spileref22_FewShares.A Try.f11 (.one (.leaf .bool)) (TT.lo false [.leaf (.row [.int .i64, .int .i64])] x) H.empty).bind fun p => rdRes false p.2 (.one (.leaf .bool)) (Res.un (.one (.leaf .bool)) p.1)) = spileref22_FewSharesP x := by
  intro x
  rw [show TT.lo false [.leaf (.row [.int .i64, .int .i64])] x = TT.un [.leaf .slice] ((rowSV false [.int .i64, .int .i64] x)) from rfl, spileref22_FewShares.eq]
  rfl
noncomputable def spileref22_FewSharesP.e : Entry := mkP [.leaf (.row [.int .i64, .int .i64])] (.one (.leaf .bool)) fun x => spileref22_FewSharesP x
theorem spileref22_FewSharesP.ok : EntryOK Try.prog 11 (spileref22_FewSharesP.e) := mkP_ok (spileref22_FewShares.tbok) Try.mixed Try.func11 (by kernel_rfl) spileref22_FewSharesP.eq
end Go.Proofs.Ytbcpdecgfdlaaaa
