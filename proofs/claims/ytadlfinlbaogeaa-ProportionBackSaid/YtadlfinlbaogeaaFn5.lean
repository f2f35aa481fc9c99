/- The functions of the program as Lean functions, each with the equation by which the evaluator is that function. Written by a program of this session (evdrive.py). Conditions: none. -/
import Derived.Test.YtadlfinlbaogeaaProg
import Derived.Test.YtadlfinlbaogeaaEvSpec
import Derived.Test.YtadlfinlbaogeaaFn4
namespace Go.Proofs.Ytadlfinlbaogeaa
open Go Go.Proofs.Ytadlfinlbaogeaa.Ev
set_option maxRecDepth 100000
set_option linter.unusedVariables false
/-! ### spile/loss.split: function 66 -/
noncomputable def loss_split.tb : Table := tab [] [(84, loss_split_1.e)] Table.nil
theorem loss_split.tbok : TabOK Try.prog (loss_split.tb) := TabOK.tab (TabOK.nil Try.prog) (all_nil _) (all_cons loss_split_1.ok (all_nil _))
noncomputable def loss_split (a0 : Int) (a1 : Int) (a2 : Int) (a3 : Int) (h : H) : Option (((Int × Int × Int × Int)) × H) :=
(let h1 : H := H.new h [.int .i64 0, .int .i64 0, .int .i64 0, .int .i64 0] 4
(bif (decide (a0 < a1)) then ((H.wrs h1 (.hp h.next 4 0) [.int .i64 0, .int .i64 0, .int .i64 0, .int .i64 (IntKind.wrap .i64 (a1 - a0))]).bind fun h2 =>
((rdT (.agg [.int .i64, .int .i64, .int .i64, .int .i64]) h2 (.hp h.next 4 0 : V)).bind fun (x3_0, x3_1, x3_2, x3_3) =>
(some ((x3_0, x3_1, x3_2, x3_3), h2)))) else (let h4 : H := H.new h1 [.int .i64 0] 1
((H.wrs h4 (.hp h1.next 1 0) [.int .i64 (IntKind.wrap .i64 (a0 - a1))]).bind fun h5 =>
((loss_split_1 a2 (.hp h1.next 1 0 : V) h5).bind fun (r6, h7) =>
(let h8 : H := H.new h7 [.int .i64 0, .int .i64 0, .int .i64 0, .int .i64 0] 4
((H.wrs h8 (.hp h7.next 4 0) [.int .i64 r6, .int .i64 0, .int .i64 0, .int .i64 0]).bind fun h9 =>
((loss_split_1 a3 (.hp h1.next 1 0 : V) h9).bind fun (r10, h11) =>
((H.wrs h11 (.hp h7.next 4 1) [.int .i64 r10]).bind fun h12 =>
((rdT (.leaf (.int .i64)) h12 (.hp h1.next 1 0)).bind fun x13 =>
((H.wrs h12 (.hp h7.next 4 2) [.int .i64 x13]).bind fun h14 =>
((rdT (.agg [.int .i64, .int .i64, .int .i64, .int .i64]) h14 (.hp h7.next 4 0)).bind fun (x15_0, x15_1, x15_2, x15_3) =>
((H.wrs h14 (.hp h.next 4 0) [.int .i64 x15_0, .int .i64 x15_1, .int .i64 x15_2, .int .i64 x15_3]).bind fun h16 =>
((rdT (.agg [.int .i64, .int .i64, .int .i64, .int .i64]) h16 (.hp h.next 4 0 : V)).bind fun (x17_0, x17_1, x17_2, x17_3) =>
(some ((x17_0, x17_1, x17_2, x17_3), h16))))))))))))))))
def loss_split.A : Ann := { lits := [], conds := [], loops := [], regs := [] }
theorem loss_split.eq : ∀ (x : TT [.leaf (.int .i64), .leaf (.int .i64), .leaf (.int .i64), .leaf (.int .i64)]) (h : H), evalFn Try.prog (loss_split.tb) loss_split.A Try.f66 (.one (.agg [.int .i64, .int .i64, .int .i64, .int .i64])) (TT.un [.leaf (.int .i64), .leaf (.int .i64), .leaf (.int .i64), .leaf (.int .i64)] x) h = loss_split x.1 x.2.1 x.2.2.1 x.2.2.2 h := by
  intro x h
  kernel_rfl
noncomputable def loss_split.e : Entry := mkX [.leaf (.int .i64), .leaf (.int .i64), .leaf (.int .i64), .leaf (.int .i64)] (.one (.agg [.int .i64, .int .i64, .int .i64, .int .i64])) fun x h => loss_split x.1 x.2.1 x.2.2.1 x.2.2.2 h
theorem loss_split.ok : EntryOK Try.prog 66 (loss_split.e) := mkX_ok (loss_split.tbok) Try.mixed Try.func66 (by kernel_rfl) (loss_split.eq)
noncomputable def loss_splitP (a0 : Int) (a1 : Int) (a2 : Int) (a3 : Int) : Option ((Int × Int × Int × Int)) := (loss_split a0 a1 a2 a3 H.empty).bind fun p => rdRes false p.2 (.one (.agg [.int .i64, .int .i64, .int .i64, .int .i64])) (Res.un (.one (.agg [.int .i64, .int .i64, .int .i64, .int .i64])) p.1)
theorem loss_splitP.eq : ∀ x : TT [.leaf (.int .i64), .leaf (.int .i64), .leaf (.int .i64), .leaf (.int .i64)], ((evalFn Try.prog (loss_split.tb) loss_split.A Try.f66 (.one (.agg [.int .i64, .int .i64, .int .i64, .int .i64])) (TT.lo false [.leaf (.int .i64), .leaf (.int .i64), .leaf (.int .i64), .leaf (.int .i64)] x) H.empty).bind fun p => rdRes false p.2 (.one (.agg [.int .i64, .int .i64, .int .i64, .int .i64])) (Res.un (.one (.agg [.int .i64, .int .i64, .int .i64, .int .i64])) p.1)) = loss_splitP x.1 x.2.1 x.2.2.1 x.2.2.2 := by
  intro x
  rw [show TT.lo false [.leaf (.int .i64), .leaf (.int .i64), .leaf (.int .i64), .leaf (.int .i64)] x = TT.un [.leaf (.int .i64), .leaf (.int .i64), .leaf (.int .i64), .leaf (.int .i64)] (x.1, x.2.1, x.2.2.1, x.2.2.2) from rfl, loss_split.eq]
  rfl
noncomputable def loss_splitP.e : Entry := mkP [.leaf (.int .i64), .leaf (.int .i64), .leaf (.int .i64), .leaf (.int .i64)] (.one (.agg [.int .i64, .int .i64, .int .i64, .int .i64])) fun x => loss_splitP x.1 x.2.1 x.2.2.1 x.2.2.2
theorem loss_splitP.ok : EntryOK Try.prog 66 (loss_splitP.e) := mkP_ok (loss_split.tbok) Try.mixed Try.func66 (by kernel_rfl) loss_splitP.eq

/-! ### spile/loss.Chain: function 31 -/
noncomputable def loss_Chain.tb : Table := tab [(65, loss_amountP.e), (66, loss_splitP.e)] [] Table.nil
theorem loss_Chain.tbok : TabOK Try.prog (loss_Chain.tb) := TabOK.tab (TabOK.nil Try.prog) (all_cons loss_amountP.ok (all_cons loss_splitP.ok (all_nil _))) (all_nil _)
noncomputable def loss_Chain.loop1 (a1 : SV) : (SV × Int × Int) × H → Option (Stp ((SV × Int × Int) × H) (Flow (SV) (SV × Int × Int) × H)) := fun ((y3, y4, y5), h6) =>
(bif (decide (y5 < ((a1.len : Nat) : Int))) then (guardO (0 ≤ y5 ∧ y5 < ((a1.len : Nat) : Int)) ((rdT (.agg [.int .i64, .int .i64, .int .i64, .int .i64, .int .i64]) h6 (V.add a1.a (Int.toNat y5 * 5))).bind fun (x7_0, x7_1, x7_2, x7_3, x7_4) =>
(let h8 : H := H.new h6 [.int .i64 0, .int .i64 0, .int .i64 0, .int .i64 0, .int .i64 0] 5
((H.wrs h8 (.hp h6.next 5 0) [.int .i64 x7_0, .int .i64 x7_1, .int .i64 x7_2, .int .i64 x7_3, .int .i64 x7_4]).bind fun h9 =>
((rdT (.leaf (.int .i64)) h9 (.hp h6.next 5 0)).bind fun x10 =>
((rdT (.leaf (.int .i64)) h9 (.hp h6.next 5 1)).bind fun x11 =>
((rdT (.leaf (.int .i64)) h9 (.hp h6.next 5 2)).bind fun x12 =>
((rdT (.leaf (.int .i64)) h9 (.hp h6.next 5 3)).bind fun x13 =>
((rdT (.leaf (.int .i64)) h9 (.hp h6.next 5 4)).bind fun x14 =>
((rdRow true h9 [.int .i64] ⟨.lp true ([.int .i64 x10, .int .i64 x11, .int .i64 x12, .int .i64 x13, .int .i64 x14]) 0, 5, 5, false⟩).bind fun s16 =>
((loss_amountP s16).bind fun r15 =>
(bif (!r15) then (some (.done (.ret (⟨.nil, 0, 0, false⟩, y5, 2), h9))) else ((rdT (.leaf (.int .i64)) h9 (.hp h6.next 5 0)).bind fun x17 =>
(bif (decide ((10737418240000 : Int) < (IntKind.wrap .i64 (y4 + x17)))) then (some (.done (.ret (⟨.nil, 0, 0, false⟩, y5, 15), h9))) else ((rdT (.leaf (.int .i64)) h9 (.hp h6.next 5 1)).bind fun x18 =>
((rdT (.leaf (.int .i64)) h9 (.hp h6.next 5 0)).bind fun x19 =>
(bif (decide ((IntKind.wrap .i64 (y4 + x19)) < x18)) then (some (.done (.ret (⟨.nil, 0, 0, false⟩, y5, 17), h9))) else ((rdT (.leaf (.int .i64)) h9 (.hp h6.next 5 0)).bind fun x20 =>
((rdT (.leaf (.int .i64)) h9 (.hp h6.next 5 1)).bind fun x21 =>
((rdT (.leaf (.int .i64)) h9 (.hp h6.next 5 2)).bind fun x22 =>
((rdT (.leaf (.int .i64)) h9 (.hp h6.next 5 3)).bind fun x23 =>
((rdT (.leaf (.int .i64)) h9 (.hp h6.next 5 4)).bind fun x24 =>
((loss_splitP (IntKind.wrap .i64 ((IntKind.wrap .i64 (y4 + x20)) - x21)) x22 x23 x24).bind fun (r25_0, r25_1, r25_2, r25_3) =>
((appendS h9 none 4 32 y3 [.int .i64 r25_0, .int .i64 r25_1, .int .i64 r25_2, .int .i64 r25_3] 1).bind fun (s28, h27) =>
((rdT (.leaf (.int .i64)) h27 (.hp h6.next 5 2)).bind fun x30 =>
(some (.more ((s28, x30, (IntKind.wrap .i64 (y5 + 1))), h27)))))))))))))))))))))))))))) else (some (.done (.ex0 y3, h6))))
noncomputable def loss_Chain (a0 : Int) (a1 : SV) (h : H) : Option ((SV × Int × Int) × H) :=
(bif (decide ((128 : Int) < ((a1.len : Nat) : Int))) then (some ((⟨.nil, 0, 0, false⟩, (-1), 8), h)) else ((rdRow true h [.int .i64] ⟨.lp true ([.int .i64 a0]) 0, 1, 1, false⟩).bind fun s2 =>
((loss_amountP s2).bind fun r1 =>
(bif (!r1) then (some ((⟨.nil, 0, 0, false⟩, (-1), 2), h)) else ((iter FUEL (loss_Chain.loop1 a1) ((⟨.nil, 0, 0, false⟩, a0, 0), h)).bind fun (fl32, h31) => match fl32 with
| .next _ => none
| .ret rr33 => (some (rr33, h31))
| .ex0 y34 =>
(some ((y34, (-1), 0), h31))
| .ex1 _ => none)))))
def loss_Chain.A : Ann := { lits := [], conds := [], loops := [(8, [7, 8, 23], [.leaf .slice, .leaf (.int .i64), .leaf (.int .i64)], [7], [.leaf .slice], some 1, none)], regs := [] }
theorem loss_Chain.eq : ∀ (x : TT [.leaf (.int .i64), .leaf .slice]) (h : H), evalFn Try.prog (loss_Chain.tb) loss_Chain.A Try.f31 (.many [.leaf .slice, .leaf (.int .i64), .leaf (.int .i64)]) (TT.un [.leaf (.int .i64), .leaf .slice] x) h = loss_Chain x.1 x.2 h := by
  intro x h
  kernel_rfl
noncomputable def loss_Chain.e : Entry := mkX [.leaf (.int .i64), .leaf .slice] (.many [.leaf .slice, .leaf (.int .i64), .leaf (.int .i64)]) fun x h => loss_Chain x.1 x.2 h
theorem loss_Chain.ok : EntryOK Try.prog 31 (loss_Chain.e) := mkX_ok (loss_Chain.tbok) Try.mixed Try.func31 (by kernel_rfl) (loss_Chain.eq)
noncomputable def loss_ChainP (a0 : Int) (a1 : (List (Int × Int × Int × Int × Int))) : Option ((List (Int × Int × Int × Int)) × Int × Int) := (loss_Chain a0 (rowSV false [.int .i64, .int .i64, .int .i64, .int .i64, .int .i64] a1) H.empty).bind fun p => rdRes false p.2 (.many [.leaf (.row [.int .i64, .int .i64, .int .i64, .int .i64]), .leaf (.int .i64), .leaf (.int .i64)]) (Res.un (.many [.leaf .slice, .leaf (.int .i64), .leaf (.int .i64)]) p.1)
theorem loss_ChainP.eq : ∀ x : TT [.leaf (.int .i64), .leaf (.row [.int .i64, .int .i64, .int .i64, .int .i64, .int .i64])], ((evalFn Try.prog (loss_Chain.tb) loss_Chain.A Try.f31 (.many [.leaf .slice, .leaf (.int .i64), .leaf (.int .i64)]) (TT.lo false [.leaf (.int .i64), .leaf (.row [.int .i64, .int .i64, .int .i64, .int .i64, .int .i64])] x) H.empty).bind fun p => rdRes false p.2 (.many [.leaf (.row [.int .i64, .int .i64, .int .i64, .int .i64]), .leaf (.int .i64), .leaf (.int .i64)]) (Res.un (.many [.leaf .slice, .leaf (.int .i64), .leaf (.int .i64)]) p.1)) = loss_ChainP x.1 x.2 := by
  intro x
  rw [show TT.lo false [.leaf (.int .i64), .leaf (.row [.int .i64, .int .i64, .int .i64, .int .i64, .int .i64])] x = TT.un [.leaf (.int .i64), .leaf .slice] (x.1, (rowSV false [.int .i64, .int .i64, .int .i64, .int .i64, .int .i64] x.2)) from rfl, loss_Chain.eq]
  rfl
noncomputable def loss_ChainP.e : Entry := mkP [.leaf (.int .i64), .leaf (.row [.int .i64, .int .i64, .int .i64, .int .i64, .int .i64])] (.many [.leaf (.row [.int .i64, .int .i64, .int .i64, .int .i64]), .leaf (.int .i64), .leaf (.int .i64)]) fun x => loss_ChainP x.1 x.2
theorem loss_ChainP.ok : EntryOK Try.prog 31 (loss_ChainP.e) := mkP_ok (loss_Chain.tbok) Try.mixed Try.func31 (by kernel_rfl) loss_ChainP.eq

/-! ### spile/loss.Split: function 35 -/
noncomputable def loss_Split.tb : Table := tab [(65, loss_amountP.e), (66, loss_splitP.e)] [] Table.nil
theorem loss_Split.tbok : TabOK Try.prog (loss_Split.tb) := TabOK.tab (TabOK.nil Try.prog) (all_cons loss_amountP.ok (all_cons loss_splitP.ok (all_nil _))) (all_nil _)
noncomputable def loss_Split (a0 : Int) (a1 : Int) (a2 : Int) (a3 : Int) (h : H) : Option (((Int × Int × Int × Int) × Int) × H) :=
(let h1 : H := H.new h [.int .i64 0, .int .i64 0, .int .i64 0, .int .i64 0] 4
((rdRow true h1 [.int .i64] ⟨.lp true ([.int .i64 a0, .int .i64 a1, .int .i64 a2, .int .i64 a3]) 0, 4, 4, false⟩).bind fun s3 =>
((loss_amountP s3).bind fun r2 =>
(bif (!r2) then ((H.wrs h1 (.hp h.next 4 0) [.int .i64 0, .int .i64 0, .int .i64 0, .int .i64 0]).bind fun h4 =>
((rdT (.agg [.int .i64, .int .i64, .int .i64, .int .i64]) h4 (.hp h.next 4 0 : V)).bind fun (x5_0, x5_1, x5_2, x5_3) =>
(some (((x5_0, x5_1, x5_2, x5_3), 2), h4)))) else ((loss_splitP a0 a1 a2 a3).bind fun (r6_0, r6_1, r6_2, r6_3) =>
((H.wrs h1 (.hp h.next 4 0) [.int .i64 r6_0, .int .i64 r6_1, .int .i64 r6_2, .int .i64 r6_3]).bind fun h7 =>
((rdT (.agg [.int .i64, .int .i64, .int .i64, .int .i64]) h7 (.hp h.next 4 0 : V)).bind fun (x8_0, x8_1, x8_2, x8_3) =>
(some (((x8_0, x8_1, x8_2, x8_3), 0), h7)))))))))
def loss_Split.A : Ann := { lits := [], conds := [], loops := [], regs := [] }
theorem loss_Split.eq : ∀ (x : TT [.leaf (.int .i64), .leaf (.int .i64), .leaf (.int .i64), .leaf (.int .i64)]) (h : H), evalFn Try.prog (loss_Split.tb) loss_Split.A Try.f35 (.many [.agg [.int .i64, .int .i64, .int .i64, .int .i64], .leaf (.int .i64)]) (TT.un [.leaf (.int .i64), .leaf (.int .i64), .leaf (.int .i64), .leaf (.int .i64)] x) h = loss_Split x.1 x.2.1 x.2.2.1 x.2.2.2 h := by
  intro x h
  kernel_rfl
noncomputable def loss_Split.e : Entry := mkX [.leaf (.int .i64), .leaf (.int .i64), .leaf (.int .i64), .leaf (.int .i64)] (.many [.agg [.int .i64, .int .i64, .int .i64, .int .i64], .leaf (.int .i64)]) fun x h => loss_Split x.1 x.2.1 x.2.2.1 x.2.2.2 h
theorem loss_Split.ok : EntryOK Try.prog 35 (loss_Split.e) := mkX_ok (loss_Split.tbok) Try.mixed Try.func35 (by kernel_rfl) (loss_Split.eq)
noncomputable def loss_SplitP (a0 : Int) (a1 : Int) (a2 : Int) (a3 : Int) : Option ((Int × Int × Int × Int) × Int) := (loss_Split a0 a1 a2 a3 H.empty).bind fun p => rdRes false p.2 (.many [.agg [.int .i64, .int .i64, .int .i64, .int .i64], .leaf (.int .i64)]) (Res.un (.many [.agg [.int .i64, .int .i64, .int .i64, .int .i64], .leaf (.int .i64)]) p.1)
theorem loss_SplitP.eq : ∀ x : TT [.leaf (.int .i64), .leaf (.int .i64), .leaf (.int .i64), .leaf (.int .i64)], ((evalFn Try.prog (loss_Split.tb) loss_Split.A Try.f35 (.many [.agg [.int .i64, .int .i64, .int .i64, .int .i64], .leaf (.int .i64)]) (TT.lo false [.leaf (.int .i64), .leaf (.int .i64), .leaf (.int .i64), .leaf (.int .i64)] x) H.empty).bind fun p => rdRes false p.2 (.many [.agg [.int .i64, .int .i64, .int .i64, .int .i64], .leaf (.int .i64)]) (Res.un (.many [.agg [.int .i64, .int .i64, .int .i64, .int .i64], .leaf (.int .i64)]) p.1)) = loss_SplitP x.1 x.2.1 x.2.2.1 x.2.2.2 := by
  intro x
  rw [show TT.lo false [.leaf (.int .i64), .leaf (.int .i64), .leaf (.int .i64), .leaf (.int .i64)] x = TT.un [.leaf (.int .i64), .leaf (.int .i64), .leaf (.int .i64), .leaf (.int .i64)] (x.1, x.2.1, x.2.2.1, x.2.2.2) from rfl, loss_Split.eq]
  rfl
noncomputable def loss_SplitP.e : Entry := mkP [.leaf (.int .i64), .leaf (.int .i64), .leaf (.int .i64), .leaf (.int .i64)] (.many [.agg [.int .i64, .int .i64, .int .i64, .int .i64], .leaf (.int .i64)]) fun x => loss_SplitP x.1 x.2.1 x.2.2.1 x.2.2.2
theorem loss_SplitP.ok : EntryOK Try.prog 35 (loss_SplitP.e) := mkP_ok (loss_Split.tbok) Try.mixed Try.func35 (by kernel_rfl) loss_SplitP.eq

/-! ### spile/loss.Among$1: function 70 -/
noncomputable def loss_Among_1.tb (T : Table) : Table := tab [(28, proportion_DivideP.e)] [] T
theorem loss_Among_1.tbok (T : Table) (hT : TabOK Try.prog T) : TabOK Try.prog (loss_Among_1.tb T) := TabOK.tab (hT) (all_cons proportion_DivideP.ok (all_nil _)) (all_nil _)
noncomputable def loss_Among_1.loop1 (T : Table) (a1 : V) (a3 : V) (r2 : List (Int)) : (Int) × H → Option (Stp ((Int) × H) (Flow (Unit) (Int) × H)) := fun (y5, h6) =>
(bif (decide (y5 < ((r2.length : Nat) : Int))) then (let h7 : H := H.reserve h6 0
((rdT (.leaf .slice) h7 a3).bind fun x8 =>
(guardO (0 ≤ y5 ∧ y5 < ((x8.len : Nat) : Int)) (guardO (0 ≤ y5 ∧ y5 < ((r2.length : Nat) : Int)) ((rdT (.leaf (.int .i64)) h7 (V.add ((rowSV true [.int .i64] r2).a) (Int.toNat y5 * 1))).bind fun x9 =>
(callV T.dy a1 [(V.add x8.a (Int.toNat y5 * 4)), .int .i64 x9] h7 fun v10 h11 =>
(Res.pack (.many []) v10).bind fun _ =>
(some (.more ((IntKind.wrap .i64 (y5 + 1)), h11))))))))) else (some (.done (.ex0 (), h6))))
noncomputable def loss_Among_1 (T : Table) (a0 : Int) (a1 : V) (a2 : V) (a3 : V) (h : H) : Option ((Int) × H) :=
((rdT (.leaf .slice) h a2).bind fun x1 =>
((rdRow true h [.int .i64] x1).bind fun s4 =>
((proportion_DivideP a0 s4).bind fun (r2, r3) =>
((iter FUEL (loss_Among_1.loop1 T a1 a3 r2) (0, h)).bind fun (fl13, h12) => match fl13 with
| .next _ => none
| .ret rr14 => (some (rr14, h12))
| .ex0 _ =>
(some (r3, h12))
| .ex1 _ => none))))
def loss_Among_1.A : Ann := { lits := [], conds := [], loops := [(3, [18], [.leaf (.int .i64)], [], [], some 0, none)], regs := [] }
theorem loss_Among_1.eq (T : Table) : ∀ (x : TT [.leaf (.int .i64), .leaf .dyn, .leaf .ptr, .leaf .ptr]) (h : H), evalFn Try.prog (loss_Among_1.tb T) loss_Among_1.A Try.f70 (.one (.leaf (.int .i64))) (TT.un [.leaf (.int .i64), .leaf .dyn, .leaf .ptr, .leaf .ptr] x) h = loss_Among_1 T x.1 x.2.1 x.2.2.1 x.2.2.2 h := by
  intro x h
  kernel_rfl
noncomputable def loss_Among_1.e (T : Table) : Entry := mkX [.leaf (.int .i64), .leaf .dyn, .leaf .ptr, .leaf .ptr] (.one (.leaf (.int .i64))) fun x h => loss_Among_1 T x.1 x.2.1 x.2.2.1 x.2.2.2 h
theorem loss_Among_1.ok (T : Table) (hT : TabOK Try.prog T) : EntryOK Try.prog 70 (loss_Among_1.e T) := mkX_ok (loss_Among_1.tbok T hT) Try.mixed Try.func70 (by kernel_rfl) (loss_Among_1.eq T)

/-! ### spile/loss.Among$2: function 71 -/
noncomputable def loss_Among_2.tb : Table := tab [] [] Table.nil
theorem loss_Among_2.tbok : TabOK Try.prog (loss_Among_2.tb) := TabOK.tab (TabOK.nil Try.prog) (all_nil _) (all_nil _)
noncomputable def loss_Among_2 (a0 : V) (a1 : Int) (h : H) : Option ((Unit) × H) :=
(guardO (V.nnf (a0 : V) = true) (guardO (V.nn (a0 : V) = true) ((H.wrs h (V.add a0 0) [.int .i64 a1]).bind fun h1 =>
(some ((), h1)))))
def loss_Among_2.A : Ann := { lits := [], conds := [], loops := [], regs := [] }
theorem loss_Among_2.eq : ∀ (x : TT [.leaf .ptr, .leaf (.int .i64)]) (h : H), evalFn Try.prog (loss_Among_2.tb) loss_Among_2.A Try.f71 (.many []) (TT.un [.leaf .ptr, .leaf (.int .i64)] x) h = loss_Among_2 x.1 x.2 h := by
  intro x h
  kernel_rfl
noncomputable def loss_Among_2.e : Entry := mkX [.leaf .ptr, .leaf (.int .i64)] (.many []) fun x h => loss_Among_2 x.1 x.2 h
theorem loss_Among_2.ok : EntryOK Try.prog 71 (loss_Among_2.e) := mkX_ok (loss_Among_2.tbok) Try.mixed Try.func71 (by kernel_rfl) (loss_Among_2.eq)

/-! ### spile/loss.Among$3: function 72 -/
noncomputable def loss_Among_3.tb : Table := tab [] [] Table.nil
theorem loss_Among_3.tbok : TabOK Try.prog (loss_Among_3.tb) := TabOK.tab (TabOK.nil Try.prog) (all_nil _) (all_nil _)
noncomputable def loss_Among_3 (a0 : V) (a1 : Int) (h : H) : Option ((Unit) × H) :=
(guardO (V.nnf (a0 : V) = true) (guardO (V.nn (a0 : V) = true) ((H.wrs h (V.add a0 1) [.int .i64 a1]).bind fun h1 =>
(some ((), h1)))))
def loss_Among_3.A : Ann := { lits := [], conds := [], loops := [], regs := [] }
theorem loss_Among_3.eq : ∀ (x : TT [.leaf .ptr, .leaf (.int .i64)]) (h : H), evalFn Try.prog (loss_Among_3.tb) loss_Among_3.A Try.f72 (.many []) (TT.un [.leaf .ptr, .leaf (.int .i64)] x) h = loss_Among_3 x.1 x.2 h := by
  intro x h
  kernel_rfl
noncomputable def loss_Among_3.e : Entry := mkX [.leaf .ptr, .leaf (.int .i64)] (.many []) fun x h => loss_Among_3 x.1 x.2 h
theorem loss_Among_3.ok : EntryOK Try.prog 72 (loss_Among_3.e) := mkX_ok (loss_Among_3.tbok) Try.mixed Try.func72 (by kernel_rfl) (loss_Among_3.eq)

/-! ### spile/loss.Among$4: function 73 -/
noncomputable def loss_Among_4.tb : Table := tab [] [] Table.nil
theorem loss_Among_4.tbok : TabOK Try.prog (loss_Among_4.tb) := TabOK.tab (TabOK.nil Try.prog) (all_nil _) (all_nil _)
noncomputable def loss_Among_4 (a0 : V) (a1 : Int) (h : H) : Option ((Unit) × H) :=
(guardO (V.nnf (a0 : V) = true) (guardO (V.nn (a0 : V) = true) ((H.wrs h (V.add a0 2) [.int .i64 a1]).bind fun h1 =>
(some ((), h1)))))
def loss_Among_4.A : Ann := { lits := [], conds := [], loops := [], regs := [] }
theorem loss_Among_4.eq : ∀ (x : TT [.leaf .ptr, .leaf (.int .i64)]) (h : H), evalFn Try.prog (loss_Among_4.tb) loss_Among_4.A Try.f73 (.many []) (TT.un [.leaf .ptr, .leaf (.int .i64)] x) h = loss_Among_4 x.1 x.2 h := by
  intro x h
  kernel_rfl
noncomputable def loss_Among_4.e : Entry := mkX [.leaf .ptr, .leaf (.int .i64)] (.many []) fun x h => loss_Among_4 x.1 x.2 h
theorem loss_Among_4.ok : EntryOK Try.prog 73 (loss_Among_4.e) := mkX_ok (loss_Among_4.tbok) Try.mixed Try.func73 (by kernel_rfl) (loss_Among_4.eq)

/-! ### spile/loss.Among$5: function 74 -/
noncomputable def loss_Among_5.tb : Table := tab [] [] Table.nil
theorem loss_Among_5.tbok : TabOK Try.prog (loss_Among_5.tb) := TabOK.tab (TabOK.nil Try.prog) (all_nil _) (all_nil _)
noncomputable def loss_Among_5 (a0 : V) (a1 : Int) (h : H) : Option ((Unit) × H) :=
(guardO (V.nnf (a0 : V) = true) (guardO (V.nn (a0 : V) = true) ((H.wrs h (V.add a0 3) [.int .i64 a1]).bind fun h1 =>
(some ((), h1)))))
def loss_Among_5.A : Ann := { lits := [], conds := [], loops := [], regs := [] }
theorem loss_Among_5.eq : ∀ (x : TT [.leaf .ptr, .leaf (.int .i64)]) (h : H), evalFn Try.prog (loss_Among_5.tb) loss_Among_5.A Try.f74 (.many []) (TT.un [.leaf .ptr, .leaf (.int .i64)] x) h = loss_Among_5 x.1 x.2 h := by
  intro x h
  kernel_rfl
noncomputable def loss_Among_5.e : Entry := mkX [.leaf .ptr, .leaf (.int .i64)] (.many []) fun x h => loss_Among_5 x.1 x.2 h
theorem loss_Among_5.ok : EntryOK Try.prog 74 (loss_Among_5.e) := mkX_ok (loss_Among_5.tbok) Try.mixed Try.func74 (by kernel_rfl) (loss_Among_5.eq)

/-! ### spile/loss.Among: function 48 -/
noncomputable def loss_Among.tb : Table := tab [(65, loss_amountP.e)] [(71, loss_Among_2.e), (72, loss_Among_3.e), (73, loss_Among_4.e), (74, loss_Among_5.e)] Table.nil
theorem loss_Among.tbok : TabOK Try.prog (loss_Among.tb) := TabOK.tab (TabOK.nil Try.prog) (all_cons loss_amountP.ok (all_nil _)) (all_cons loss_Among_2.ok (all_cons loss_Among_3.ok (all_cons loss_Among_4.ok (all_cons loss_Among_5.ok (all_nil _)))))
noncomputable def loss_Among.loop1 (h1 : H) (h15 : H) (x18 : Int) (x19 : Int) (x20 : Int) (x21 : Int) : (Int) × H → Option (Stp ((Int) × H) (Flow (Unit) (SV × Int) × H)) := fun (y22, h23) =>
(bif (decide (y22 < 4)) then (guardO (0 ≤ y22 ∧ y22 < ((4 : Nat) : Int)) ((rdT (.agg [.int .i64, .dyn]) h23 (.lp true ([.int .i64 x18, .func 71 [], .int .i64 x19, .func 72 [], .int .i64 x20, .func 73 [], .int .i64 x21, .func 74 []]) (0 + (Int.toNat y22 * 2)))).bind fun (x24_0, x24_1) =>
(let h25 : H := H.new h23 [.int .i64 0, .nilFunc] 2
((H.wrs h25 (.hp h23.next 2 0) [.int .i64 x24_0, x24_1]).bind fun h26 =>
((rdT (.leaf (.int .i64)) h26 (.hp h23.next 2 0)).bind fun x27 =>
((rdT (.leaf .dyn) h26 (.hp h23.next 2 1)).bind fun x28 =>
((loss_Among_1 loss_Among.tb x27 x28 (.hp h1.next 1 0 : V) (.hp h15.next 1 0 : V) h26).bind fun (r29, h30) =>
(bif (!(decide (r29 = 0))) then (some (.done (.ret (⟨.nil, 0, 0, false⟩, r29), h30))) else (some (.more ((IntKind.wrap .i64 (y22 + 1)), h30))))))))))) else (some (.done (.ex0 (), h23))))
noncomputable def loss_Among (a0 : (Int × Int × Int × Int)) (a1 : SV) (h : H) : Option ((SV × Int) × H) :=
(match a0 with
| (a0_0, a0_1, a0_2, a0_3) =>
(let h1 : H := H.new h [.int .i64 a0_0, .int .i64 a0_1, .int .i64 a0_2, .int .i64 a0_3] 4
(let h2 : H := H.new h1 [.slice a1.a a1.len a1.cap a1.tail] 1
((((rdT (.leaf (.int .i64)) h2 (.hp h.next 4 0)).bind fun x3 =>
((rdT (.leaf (.int .i64)) h2 (.hp h.next 4 1)).bind fun x4 =>
((rdT (.leaf (.int .i64)) h2 (.hp h.next 4 2)).bind fun x5 =>
((rdT (.leaf (.int .i64)) h2 (.hp h.next 4 3)).bind fun x6 =>
((rdRow true h2 [.int .i64] ⟨.lp true ([.int .i64 x3, .int .i64 x4, .int .i64 x5, .int .i64 x6]) 0, 4, 4, false⟩).bind fun s8 =>
((loss_amountP s8).bind fun r7 =>
(bif !(!r7) then ((rdT (.leaf (.int .i64)) h2 (.hp h.next 4 3)).bind fun x9 =>
(bif (decide ((0 : Int) < x9)) then ((rdT (.agg [.int .i64, .int .i64, .int .i64, .int .i64]) h2 (.hp h.next 4 0)).bind fun (x10_0, x10_1, x10_2, x10_3) =>
((rdT (.leaf (.int .i64)) h2 (.hp h.next 4 3)).bind fun x11 =>
(some ((!(decide (x10_0 = 0) && (decide (x10_1 = 0) && (decide (x10_2 = 0) && (decide (x10_3 = x11)))))), h2)))) else (some (false, h2)))) else (some (true, h2)))))))))).bind fun (y12, h13) =>
(bif y12 then (some ((⟨.nil, 0, 0, false⟩, 1), h13)) else ((rdT (.leaf .slice) h13 (.hp h1.next 1 0)).bind fun x14 =>
(guardO (0 ≤ ((x14.len : Nat) : Int) ∧ ((x14.len : Nat) : Int) ≤ ((x14.len : Nat) : Int) ∧ ((x14.len : Nat) : Int) ≤ roomCells ∧ 32 ≤ 2 ^ 11 ∧ 4 = 4) (let h15 : H := H.new h13 (repeatCells [.int .i64 0, .int .i64 0, .int .i64 0, .int .i64 0] (Int.toNat ((x14.len : Nat) : Int))) 4
(let h16 : H := H.new h15 [.slice .nil 0 0 false] 1
((H.wrs h16 (.hp h15.next 1 0) [.slice (.hp h13.next (Int.toNat ((x14.len : Nat) : Int) * 4) 0) (Int.toNat ((x14.len : Nat) : Int)) (Int.toNat ((x14.len : Nat) : Int)) true]).bind fun h17 =>
((rdT (.leaf (.int .i64)) h17 (.hp h.next 4 0)).bind fun x18 =>
((rdT (.leaf (.int .i64)) h17 (.hp h.next 4 1)).bind fun x19 =>
((rdT (.leaf (.int .i64)) h17 (.hp h.next 4 2)).bind fun x20 =>
((rdT (.leaf (.int .i64)) h17 (.hp h.next 4 3)).bind fun x21 =>
((iter FUEL (loss_Among.loop1 h1 h15 x18 x19 x20 x21) (0, h17)).bind fun (fl32, h31) => match fl32 with
| .next _ => none
| .ret rr33 => (some (rr33, h31))
| .ex0 _ =>
((rdT (.leaf .slice) h31 (.hp h15.next 1 0)).bind fun x34 =>
(some ((x34, 0), h31)))
| .ex1 _ => none)))))))))))))))
def loss_Among.A : Ann := { lits := [], conds := [], loops := [(6, [52], [.leaf (.int .i64)], [], [], some 0, none)], regs := [(1, [33], [.leaf .bool])] }
noncomputable def loss_Among.tc : Table := tab [] [(70, loss_Among_1.e (loss_Among.tb))] (loss_Among.tb)
theorem loss_Among.tcok : TabOK Try.prog (loss_Among.tc) := TabOK.tab (loss_Among.tbok) (all_nil _) (all_cons (loss_Among_1.ok _ (loss_Among.tbok)) (all_nil _))
theorem loss_Among.eq : ∀ (x : TT [.agg [.int .i64, .int .i64, .int .i64, .int .i64], .leaf .slice]) (h : H), evalFn Try.prog (loss_Among.tc) loss_Among.A Try.f48 (.many [.leaf .slice, .leaf (.int .i64)]) (TT.un [.agg [.int .i64, .int .i64, .int .i64, .int .i64], .leaf .slice] x) h = loss_Among x.1 x.2 h := by
  intro x h
  kernel_rfl
noncomputable def loss_Among.e : Entry := mkX [.agg [.int .i64, .int .i64, .int .i64, .int .i64], .leaf .slice] (.many [.leaf .slice, .leaf (.int .i64)]) fun x h => loss_Among x.1 x.2 h
theorem loss_Among.ok : EntryOK Try.prog 48 (loss_Among.e) := mkX_ok (loss_Among.tcok) Try.mixed Try.func48 (by kernel_rfl) (loss_Among.eq)
noncomputable def loss_AmongP (a0 : (Int × Int × Int × Int)) (a1 : (List (Int))) : Option ((List (Int × Int × Int × Int)) × Int) := (loss_Among a0 (rowSV false [.int .i64] a1) H.empty).bind fun p => rdRes false p.2 (.many [.leaf (.row [.int .i64, .int .i64, .int .i64, .int .i64]), .leaf (.int .i64)]) (Res.un (.many [.leaf .slice, .leaf (.int .i64)]) p.1)
theorem loss_AmongP.eq : ∀ x : TT [.agg [.int .i64, .int .i64, .int .i64, .int .i64], .leaf (.row [.int .i64])], ((evalFn Try.prog (loss_Among.tc) loss_Among.A Try.f48 (.many [.leaf .slice, .leaf (.int .i64)]) (TT.lo false [.agg [.int .i64, .int .i64, .int .i64, .int .i64], .leaf (.row [.int .i64])] x) H.empty).bind fun p => rdRes false p.2 (.many [.leaf (.row [.int .i64, .int .i64, .int .i64, .int .i64]), .leaf (.int .i64)]) (Res.un (.many [.leaf .slice, .leaf (.int .i64)]) p.1)) = loss_AmongP x.1 x.2 := by
  intro x
  rw [show TT.lo false [.agg [.int .i64, .int .i64, .int .i64, .int .i64], .leaf (.row [.int .i64])] x = TT.un [.agg [.int .i64, .int .i64, .int .i64, .int .i64], .leaf .slice] (x.1, (rowSV false [.int .i64] x.2)) from rfl, loss_Among.eq]
  rfl
noncomputable def loss_AmongP.e : Entry := mkP [.agg [.int .i64, .int .i64, .int .i64, .int .i64], .leaf (.row [.int .i64])] (.many [.leaf (.row [.int .i64, .int .i64, .int .i64, .int .i64]), .leaf (.int .i64)]) fun x => loss_AmongP x.1 x.2
theorem loss_AmongP.ok : EntryOK Try.prog 48 (loss_AmongP.e) := mkP_ok (loss_Among.tcok) Try.mixed Try.func48 (by kernel_rfl) loss_AmongP.eq

/-! ### slices.Equal[[]spile/api.Loss,spile/api.Loss]: function 64 -/
noncomputable def slices_Equal_api_Loss_api_Loss.tb : Table := tab [] [] Table.nil
theorem slices_Equal_api_Loss_api_Loss.tbok : TabOK Try.prog (slices_Equal_api_Loss_api_Loss.tb) := TabOK.tab (TabOK.nil Try.prog) (all_nil _) (all_nil _)
noncomputable def slices_Equal_api_Loss_api_Loss.loop1 (a0 : SV) (a1 : SV) : (Int) × H → Option (Stp ((Int) × H) (Flow (Unit) (Bool) × H)) := fun (y1, h2) =>
(bif (decide (y1 < ((a0.len : Nat) : Int))) then (let h3 : H := H.reserve h2 0
(guardO (0 ≤ y1 ∧ y1 < ((a0.len : Nat) : Int)) ((rdT (.agg [.int .i64, .int .i64, .int .i64, .int .i64]) h3 (V.add a0.a (Int.toNat y1 * 4))).bind fun (x4_0, x4_1, x4_2, x4_3) =>
(guardO (0 ≤ y1 ∧ y1 < ((a1.len : Nat) : Int)) ((rdT (.agg [.int .i64, .int .i64, .int .i64, .int .i64]) h3 (V.add a1.a (Int.toNat y1 * 4))).bind fun (x5_0, x5_1, x5_2, x5_3) =>
(bif (!(decide (x4_0 = x5_0) && (decide (x4_1 = x5_1) && (decide (x4_2 = x5_2) && (decide (x4_3 = x5_3)))))) then (some (.done (.ret false, h3))) else (some (.more ((IntKind.wrap .i64 (y1 + 1)), h3))))))))) else (some (.done (.ex0 (), h2))))
noncomputable def slices_Equal_api_Loss_api_Loss (a0 : SV) (a1 : SV) (h : H) : Option ((Bool) × H) :=
(bif (!(decide (((a0.len : Nat) : Int) = ((a1.len : Nat) : Int)))) then (some (false, h)) else ((iter FUEL (slices_Equal_api_Loss_api_Loss.loop1 a0 a1) (0, h)).bind fun (fl7, h6) => match fl7 with
| .next _ => none
| .ret rr8 => (some (rr8, h6))
| .ex0 _ =>
(some (true, h6))
| .ex1 _ => none))
def slices_Equal_api_Loss_api_Loss.A : Ann := { lits := [], conds := [], loops := [(4, [13], [.leaf (.int .i64)], [], [], some 0, none)], regs := [] }
theorem slices_Equal_api_Loss_api_Loss.eq : ∀ (x : TT [.leaf .slice, .leaf .slice]) (h : H), evalFn Try.prog (slices_Equal_api_Loss_api_Loss.tb) slices_Equal_api_Loss_api_Loss.A Try.f64 (.one (.leaf .bool)) (TT.un [.leaf .slice, .leaf .slice] x) h = slices_Equal_api_Loss_api_Loss x.1 x.2 h := by
  intro x h
  kernel_rfl
noncomputable def slices_Equal_api_Loss_api_Loss.e : Entry := mkX [.leaf .slice, .leaf .slice] (.one (.leaf .bool)) fun x h => slices_Equal_api_Loss_api_Loss x.1 x.2 h
theorem slices_Equal_api_Loss_api_Loss.ok : EntryOK Try.prog 64 (slices_Equal_api_Loss_api_Loss.e) := mkX_ok (slices_Equal_api_Loss_api_Loss.tbok) Try.mixed Try.func64 (by kernel_rfl) (slices_Equal_api_Loss_api_Loss.eq)
noncomputable def slices_Equal_api_Loss_api_LossP (a0 : (List (Int × Int × Int × Int))) (a1 : (List (Int × Int × Int × Int))) : Option (Bool) := (slices_Equal_api_Loss_api_Loss (rowSV false [.int .i64, .int .i64, .int .i64, .int .i64] a0) (rowSV false [.int .i64, .int .i64, .int .i64, .int .i64] a1) H.empty).bind fun p => rdRes false p.2 (.one (.leaf .bool)) (Res.un (.one (.leaf .bool)) p.1)
theorem slices_Equal_api_Loss_api_LossP.eq : ∀ x : TT [.leaf (.row [.int .i64, .int .i64, .int .i64, .int .i64]), .leaf (.row [.int .i64, .int .i64, .int .i64, .int .i64])], ((evalFn Try.prog (slices_Equal_api_Loss_api_Loss.tb) slices_Equal_api_Loss_api_Loss.A Try.f64 (.one (.leaf .bool)) (TT.lo false [.leaf (.row [.int .i64, .int .i64, .int .i64, .int .i64]), .leaf (.row [.int .i64, .int .i64, .int .i64, .int .i64])] x) H.empty).bind fun p => rdRes false p.2 (.one (.leaf .bool)) (Res.un (.one (.leaf .bool)) p.1)) = slices_Equal_api_Loss_api_LossP x.1 x.2 := by
  intro x
  rw [show TT.lo false [.leaf (.row [.int .i64, .int .i64, .int .i64, .int .i64]), .leaf (.row [.int .i64, .int .i64, .int .i64, .int .i64])] x = TT.un [.leaf .slice, .leaf .slice] ((rowSV false [.int .i64, .int .i64, .int .i64, .int .i64] x.1), (rowSV false [.int .i64, .int .i64, .int .i64, .int .i64] x.2)) from rfl, slices_Equal_api_Loss_api_Loss.eq]
  rfl
noncomputable def slices_Equal_api_Loss_api_LossP.e : Entry := mkP [.leaf (.row [.int .i64, .int .i64, .int .i64, .int .i64]), .leaf (.row [.int .i64, .int .i64, .int .i64, .int .i64])] (.one (.leaf .bool)) fun x => slices_Equal_api_Loss_api_LossP x.1 x.2
theorem slices_Equal_api_Loss_api_LossP.ok : EntryOK Try.prog 64 (slices_Equal_api_Loss_api_LossP.e) := mkP_ok (slices_Equal_api_Loss_api_Loss.tbok) Try.mixed Try.func64 (by kernel_rfl) slices_Equal_api_Loss_api_LossP.eq
end Go.Proofs.Ytadlfinlbaogeaa
