/- What the functions of this seat compute, and the evaluator: some texts in one. Conditions: those of each law. -/
import Derived.Test.YtjkjcnadgpndoaaGreatMgG3
namespace Go.Proofs.YtjkjcnadgpndoaaGreat
open Go Go.Proofs.YtjkjcnadgpndoaaGreat.Ev
set_option linter.unusedVariables false
set_option linter.unusedSimpArgs false
set_option maxRecDepth 100000
set_option maxHeartbeats 4000000
theorem mergeF_eq {l : List Fct} (he : checkL l = 0) : mergeF l = ((factsF (cntF (onceF l)), conF (onceF l), idleF (cntF (onceF l)), rfsF (cntF (onceF l)) (cntF (onceF l))), 0) := by unfold mergeF meansF; rw [if_pos he]
theorem checkL_of {l : List Fct} (h1 : l.length ≤ 1024) (h : ∀ x ∈ l, checkF x = 0) : checkL l = 0 := by
  unfold checkL
  rw [if_neg (by omega), if_neg]
  rw [Bool.not_eq_true, List.any_eq_false]
  intro x hx
  rw [h x hx]
  decide
theorem ArrivalLast_ok (l : List Fct) (which : Int) (nx : Fct) (hx : TT.ok [.leaf (.row FC), .leaf (.int .u8), .agg FC] (l, which, nx)) : law_ArrivalLastP l which nx = some true := by
  have ok := okL (l := l) hx.1
  obtain ⟨hw0, hw1⟩ := u8_range (n := which) hx.2.1
  have F := Few_ok l ok.1 ok.2
  have FW := few_small (l := l)
  have S := Short_ok nx (okT hx.2.2)
  have SS := shortF_small (x := nx)
  have BB := short_bounds (x := nx)
  have CPN := Copy_ok nx
  have CO := Correct_ok lastK
  have M1 := Merge_ok l
  obtain ⟨B0, hB0⟩ : ∃ B0 : List Slot, B0 = [cFt false nx] := ⟨_, rfl⟩
  have b0 : ∀ u, (B0 ++ u)[0]? = some (cFt false nx) := fun u => by rw [hB0]; rfl
  have hB0l : B0.length = 1 := by rw [hB0]; rfl
  have e0 : (hL []).new [.int .i64 nx.1, .int .i64 nx.2.1, .int .i64 nx.2.2.1, .int .i64 nx.2.2.2.1, .slice (rowSV false j1 nx.2.2.2.2.1).a nx.2.2.2.2.1.length nx.2.2.2.2.1.length true, .slice (rowSV false t1 nx.2.2.2.2.2).a nx.2.2.2.2.2.length nx.2.2.2.2.2.length true] 6 = hL B0 := by rw [hL_new, hB0]; rfl
  have rn : ∀ u, rdT (.agg FS) (hL (B0 ++ u)) (.hp 0 6 0) = some (low false nx) := fun u => (rds_cFt (f := false) (b0 u)).1
  have rn0 : rdT (.agg FS) (hL B0) (.hp 0 6 0) = some (low false nx) := by have := rn []; rwa [List.append_nil] at this
  have rp : ∀ u, rdT (.leaf (.int .i64)) (hL (B0 ++ u)) (.hp 0 6 3) = some nx.2.2.2.1 ∧ rdT (.leaf .slice) (hL (B0 ++ u)) (.hp 0 6 4) = some (rowSV false j1 nx.2.2.2.2.1) ∧ rdT (.leaf .slice) (hL (B0 ++ u)) (.hp 0 6 5) = some (rowSV false t1 nx.2.2.2.2.2) := fun u => ⟨(rd_cFt (f := false) (b0 u)).2.2.2.1, (rd_cFt (f := false) (b0 u)).2.2.2.2.1, (rd_cFt (f := false) (b0 u)).2.2.2.2.2⟩
  obtain ⟨n0, n1, n2, n3, n4, n5⟩ := nx
  simp only at e0 rp
  have nx0 : (hL []).next = 0 := rfl
  unfold law_ArrivalLastP law_ArrivalLast
  cases hs : fewF l
  · rw [hs] at F
    try simp -implicitDefEqProofs only [hL_empty, rowSV_len, rowSV_cap, rowSV_tail, e0, nx0, awake_ok, Option.bind_some, row_facts, F, Bool.not_true, Bool.not_false, cond_true, cond_false]
    try simp -implicitDefEqProofs only [evs, reduceIte, rdRes, rdTT, rdTy, rdLT, Res.un, TT.un, Ty.un, LT.un, Leaf.un, Leaf.plain, LT.plain]
  rw [hs] at F
  by_cases h14 : (14 : Int) < (l.length : Int)
  · simp -implicitDefEqProofs only [hL_empty, rowSV_len, rowSV_cap, rowSV_tail, e0, nx0, awake_ok, Option.bind_some, row_facts, F, Bool.not_true, Bool.not_false, cond_true, cond_false, decide_eq_true h14]
    try simp -implicitDefEqProofs only [evs, reduceIte, rdRes, rdTT, rdTy, rdLT, Res.un, TT.un, Ty.un, LT.un, Leaf.un, Leaf.plain, LT.plain]
  cases hsh : shortF (n0, n1, n2, n3, n4, n5)
  · rw [hsh] at S
    try simp -implicitDefEqProofs only [hL_empty, rowSV_len, rowSV_cap, rowSV_tail, e0, nx0, awake_ok, Option.bind_some, row_facts, F, Bool.not_true, Bool.not_false, cond_true, cond_false, decide_eq_false h14, rn0, low, row_ints', row_texts', S]
    try simp -implicitDefEqProofs only [evs, reduceIte, rdRes, rdTT, rdTy, rdLT, Res.un, TT.un, Ty.un, LT.un, Leaf.un, Leaf.plain, LT.plain]
  rw [hsh] at S
  obtain ⟨hl16, hsm⟩ := FW hs
  have hnsm := SS hsh
  have hnb := BB hsh
  have CPN := CPN hnsm
  simp only at hnb
  obtain ⟨s12, t1', cp1, rd1⟩ := cp_any (sl := B0) (f := false) (xs := l) (by omega) hsm
  have rd1' := rd1 []
  rw [List.append_nil] at rd1'
  have M1 := M1 fun _ => by omega
  try simp -implicitDefEqProofs only [hL_empty, rowSV_len, rowSV_cap, rowSV_tail, e0, nx0, awake_ok, Option.bind_some, row_facts, F, Bool.not_true, Bool.not_false, cond_true, cond_false, decide_eq_false h14, rn0, low, row_ints', row_texts', S]
  rw [cp1, Option.bind_some]
  try simp -implicitDefEqProofs only [rd1', Option.bind_some, M1, wr_m4]
  by_cases he : checkL l = 0
  case neg =>
    have hm : (mergeF l).2 = checkL l := by unfold mergeF; rw [if_neg he]
    rw [hm, decide_eq_false he]
    rfl
  have hchk := (checkL_zero he).2
  rw [mergeF_eq he]
  have hsF : ∀ x ∈ factsF (cntF (onceF l)), smallF x := facts_small (cnt_small (once_small hsm))
  have hlF : (factsF (cntF (onceF l))).length ≤ 1024 := by have := (mergeF_small l).1; rw [mergeF_eq he] at this; exact this
  have hkF : ∀ x ∈ factsF (cntF (onceF l)), ∃ y ∈ l, keyF y = keyF x := fun x hx => by
    obtain ⟨y, hy, hyx⟩ := List.mem_filterMap.1 (by unfold factsF at hx; exact hx)
    exact ⟨y, onceF_mem.1 (cntF_mem.1 hy).1, (effO_key hyx).symm⟩
  have FL := fun c hl hc ht i y => facts_last (l := l) (c := c) hl hc ht (i := i) (y := y)
  obtain ⟨F1, hF1⟩ : ∃ F1, F1 = factsF (cntF (onceF l)) := ⟨_, rfl⟩
  rw [← hF1] at hsF hlF hkF FL ⊢
  generalize conF (onceF l) = K1
  generalize idleF (cntF (onceF l)) = I1
  generalize rfsF (cntF (onceF l)) (cntF (onceF l)) = R1
  obtain ⟨B1, hB1⟩ : ∃ B1, B1 = B0 ++ t1' ++ [bM (F1, K1, I1, R1)] := ⟨_, rfl⟩
  rw [← hB1]
  obtain ⟨m, hm⟩ : ∃ m, m = (B0 ++ t1').length := ⟨_, rfl⟩
  have bm : ∀ u, (B1 ++ u)[m]? = some (bM (F1, K1, I1, R1)) := fun u => by rw [hB1, hm, List.append_assoc]; simp
  have rm0 : ∀ u, rdT (.leaf .slice) (hL (B1 ++ u)) (.hp m 4 0) = some (rowSV true FC F1) := fun u => rd_m40 (bm u)
  have rm00 : rdT (.leaf .slice) (hL B1) (.hp m 4 0) = some (rowSV true FC F1) := by have := rm0 []; rwa [List.append_nil] at this
  try simp -implicitDefEqProofs only [hL_next, ← hm, eq_self, decide_true, Bool.not_true, cond_false, rm00, Option.bind_some, rowSV_len]
  by_cases hF0 : F1.length = 0
  · rw [decide_eq_true (by omega : ((F1.length : Nat) : Int) = 0)]
    rfl
  rw [decide_eq_false (by omega : ¬ ((F1.length : Nat) : Int) = 0)]
  obtain ⟨i, hi, hil⟩ := mod_range hw0 hw1 hF0
  have hgi : F1[i]? = some F1[i] := List.getElem?_eq_getElem hil
  have hl0 : l.length ≠ 0 := fun e => by
    obtain ⟨y, hy, _⟩ := hkF _ (List.getElem_mem hil)
    rw [List.eq_nil_of_length_eq_zero e] at hy
    cases hy
  obtain ⟨y0, hy0, hy0k⟩ := hkF _ (List.getElem_mem hil)
  have hfit : fitK (keyF F1[i]) := by rw [← hy0k]; exact fit_of (hchk _ hy0)
  have hkr : ∀ h, rdT (.agg KC) h (V.add (V.add (rowSV true FC F1).a (i * 6)) 0) = some (keyF F1[i]) := fun h => rd_keyrow hgi
  have hnn : V.nn (V.add (rowSV true FC F1).a (i * 6)) = true := nn_row (by omega) (by decide)
  obtain ⟨g, hg⟩ : ∃ g, g = F1[i] := ⟨_, rfl⟩
  rw [← hg] at hgi hy0k hfit hkr
  obtain ⟨⟨k0, k1, k2⟩, hk⟩ : ∃ k, k = keyF g := ⟨_, rfl⟩
  rw [← hk] at hy0k hfit hkr
  try simp -implicitDefEqProofs only [Bool.not_false, cond_true, cond_false, Option.bind_some, rm00, rowSV_len, hi, Int.toNat_natCast]
  rw [guardO_pos (by omega), guardO_pos (by omega), guardO_pos hnn, hkr, Option.bind_some]
  obtain ⟨B2, hB2⟩ : ∃ B2, B2 = B1 ++ [cKy (k0, k1, k2)] := ⟨_, rfl⟩
  obtain ⟨B3, hB3⟩ : ∃ B3, B3 = B2 ++ [cKy lastK] := ⟨_, rfl⟩
  have w2 : H.wrs ((hL B1).new [.int .i64 0, .int .i64 0, .int .i64 0] 3) (.hp B1.length 3 0) [.int .i64 k0, .int .i64 k1, .int .i64 k2] = some (hL B2) := by rw [hL_new, hB2]; exact wr_key (k := (k0, k1, k2))
  have w3 : H.wrs ((hL B2).new [.int .i64 0, .int .i64 0, .int .i64 0] 3) (.hp B2.length 3 0) [.int .i64 100000, .int .i64 1048576, .int .i64 1073741824] = some (hL B3) := by rw [hL_new, hB3]; exact wr_key (k := lastK)
  simp only
  try simp -implicitDefEqProofs only [hL_next, w2, Option.bind_some, key_lit, w3]
  have rk : ∀ u, rdT (.agg KC) (hL (B3 ++ u)) (.hp B1.length 3 0) = some (k0, k1, k2) := fun u => rd_cKy (by rw [hB3, hB2]; simp)
  have ro : ∀ u, rdT (.agg KC) (hL (B3 ++ u)) (.hp B2.length 3 0) = some lastK := fun u => rd_cKy (by rw [hB3]; simp)
  have e31 : ∀ u, ∃ u', B3 ++ u = B1 ++ u' := fun u => ⟨_, by rw [hB3, hB2, List.append_assoc, List.append_assoc]⟩
  have e30 : ∀ u, ∃ u', B3 ++ u = B0 ++ u' := fun u => ⟨_, by rw [hB3, hB2, hB1, List.append_assoc, List.append_assoc, List.append_assoc, List.append_assoc]⟩
  have rM : ∀ u, rdT (.leaf .slice) (hL (B3 ++ u)) (.hp m 4 0) = some (rowSV true FC F1) := fun u => by obtain ⟨u', e⟩ := e31 u; rw [e]; exact rm0 u'
  have rN : ∀ u, rdT (.agg FS) (hL (B3 ++ u)) (.hp 0 6 0) = some (low false (n0, n1, n2, n3, n4, n5)) := fun u => by obtain ⟨u', e⟩ := e30 u; rw [e]; exact rn u'
  have rP : ∀ u, rdT (.leaf (.int .i64)) (hL (B3 ++ u)) (.hp 0 6 3) = some n3 ∧ rdT (.leaf .slice) (hL (B3 ++ u)) (.hp 0 6 4) = some (rowSV false j1 n4) ∧ rdT (.leaf .slice) (hL (B3 ++ u)) (.hp 0 6 5) = some (rowSV false t1 n5) := fun u => by obtain ⟨u', e⟩ := e30 u; rw [e]; exact rp u'
  have hm3 : m < B1.length := by rw [hB1, hm]; simp
  have h12 : B2.length = B1.length + 1 := by rw [hB2]; simp
  have h23 : B3.length = B1.length + 2 := by rw [hB3, List.length_append, h12]; rfl
  have h01 : 1 ≤ B1.length := by omega
  obtain ⟨J1, hJ1⟩ := ContainsF_grow (T := law_ArrivalLast.tb) (v := .func 44 [.hp B2.length 3 0]) (B := B3) (xs := l) (s := rowSV false FC l) (f := false) (fun x => decide (keyF x = lastK)) rfl (by omega)
    (fun i x hx J => by rw [rd_fact, hx]; rfl) (fun x hx J R K => by
      have := call44 (T := law_ArrivalLast.tb) (sl := B3 ++ J) (p := .hp B2.length 3 0) (k := lastK) (f := false) rfl x (by rw [List.append_assoc]; exact ro _) K
      rw [List.append_assoc B3] at this
      exact this)
  rw [hJ1, Option.bind_some]
  simp only
  cases hown : l.any fun x => decide (keyF x = lastK)
  case true => rfl
  have hno : ∀ f ∈ l, keyF f ≠ lastK := fun f hf e => by
    have := List.any_eq_false.1 hown f hf
    exact this (decide_eq_true e)
  have hlt : ∀ f ∈ l, cmpK (keyF f) lastK < 0 := fun f hf => lt_last (fit_of (hchk f hf)) (hno f hf)
  have hkne : (k0, k1, k2) ≠ lastK := by rw [← hy0k]; exact hno _ hy0
  -- the undo
  obtain ⟨hu1, hu2, hu3, hu4⟩ := undo_made hfit
  have hu5 := undo_check hfit
  have hU := Undo_ok lastK (k0, k1, k2)
  rw [hu1] at hU
  have FU := FL (undoOf lastK (k0, k1, k2)) hlt hu4 hu2 i g hgi (by rw [hu3, hk])
  have hu90 : (undoOf lastK (k0, k1, k2)).2.2.2.1 = 91 := rfl
  have hun : smallF (undoOf lastK (k0, k1, k2)) := ⟨by show 3 ≤ 2 ^ 20; decide, by show 0 ≤ 2 ^ 20; decide⟩
  have hukey : keyF (undoOf lastK (k0, k1, k2)) = lastK := rfl
  obtain ⟨u, hu⟩ : ∃ u, u = undoOf lastK (k0, k1, k2) := ⟨_, rfl⟩
  rw [← hu] at hU FU hu90 hun hukey hu5
  rw [if_neg (by rw [hu90]; decide)] at FU
  have CU := Copy_ok u hun
  have MU := Merge_ok (l ++ [u]) fun _ => by simp; omega
  have hcu : checkL (l ++ [u]) = 0 := checkL_of (by simp; omega) fun x hx => by
    rcases List.mem_append.1 hx with h | h
    · exact hchk x h
    · rw [List.mem_singleton.1 h]; exact hu5
  rw [mergeF_eq hcu, FU] at MU
  have hone : ∀ x ∈ F1.eraseIdx i, smallF x := fun x hx => hsF x (List.mem_of_mem_eraseIdx hx)
  have hel : (F1.eraseIdx i).length ≤ 1024 := by rw [List.length_eraseIdx]; split <;> omega
  obtain ⟨F2, hF2⟩ : ∃ F2, F2 = F1.eraseIdx i := ⟨_, rfl⟩
  rw [← hF2] at MU hone hel
  generalize conF (onceF (l ++ [u])) = K2 at MU
  generalize idleF (cntF (onceF (l ++ [u]))) = I2 at MU
  generalize rfsF (cntF (onceF (l ++ [u]))) (cntF (onceF (l ++ [u]))) = R2 at MU
  obtain ⟨B4, hB4⟩ : ∃ B4, B4 = B3 ++ J1 := ⟨_, rfl⟩
  rw [← hB4]
  have ro4 : rdT (.agg KC) (hL B4) (.hp B2.length 3 0) = some lastK := by rw [hB4]; exact ro _
  have rk4 : rdT (.agg KC) (hL B4) (.hp B1.length 3 0) = some (k0, k1, k2) := by rw [hB4]; exact rk _
  obtain ⟨u0, u1, u2, u3, u4, u5⟩ := u
  obtain ⟨B5, hB5⟩ : ∃ B5, B5 = B4 ++ [cFt true (u0, u1, u2, u3, u4, u5)] := ⟨_, rfl⟩
  have w5 : H.wrs ((hL B4).new [.int .i64 0, .int .i64 0, .int .i64 0, .int .i64 0, .slice .nil 0 0 false, .slice .nil 0 0 false] 6) (.hp B4.length 6 0) [.int .i64 u0, .int .i64 u1, .int .i64 u2, .int .i64 u3, .slice (rowSV true j1 u4).a u4.length u4.length true, .slice (rowSV true t1 u5).a u5.length u5.length true] = some (hL B5) := by
    rw [hL_new, hB5]; exact wr_fact (x := (u0, u1, u2, u3, u4, u5))
  have h45 : B5.length = B4.length + 1 := by rw [hB5]; simp
  have h34 : B3.length ≤ B4.length := by rw [hB4]; simp
  obtain ⟨X6, hX6⟩ : ∃ X6, X6 = B5 ++ [Slot.fresh, Slot.fresh] := ⟨_, rfl⟩
  have h6 : X6.length = B5.length + 2 := by rw [hX6]; simp
  have ru : rdT (.agg FS) (hL (X6 ++ [.own (cellsL FC l) 6])) (.hp B4.length 6 0) = some (low true (u0, u1, u2, u3, u4, u5)) := (rds_cFt (f := true) (by rw [hX6, hB5]; simp)).1
  obtain ⟨ca1, ca2, ca3⟩ := copy_app (X := X6) (l := l) (c := (u0, u1, u2, u3, u4, u5)) (at_ := some B5.length) (by omega) hsm hl0
  have e6 : (hL B5).reserve 2 = hL X6 := by rw [hL_reserve, hX6]; rfl
  obtain ⟨B7, hB7⟩ : ∃ B7, B7 = B5 ++ [Slot.fresh, bM (F2, K2, I2, R2)] ++ [Slot.own (cellsL FC (l ++ [(u0, u1, u2, u3, u4, u5)])) 6] := ⟨_, rfl⟩
  have w7 : H.wrs (H.put (hL (X6 ++ [.own (cellsL FC (l ++ [(u0, u1, u2, u3, u4, u5)])) 6])) (B5.length + 1) (.own [.slice .nil 0 0 false, .slice .nil 0 0 false, .slice .nil 0 0 false, .slice .nil 0 0 false] 4)) (.hp (B5.length + 1) 4 0) (cM F2 K2 I2 R2) = some (hL B7) := by
    rw [hX6, hB7]; exact put_m4
  have ca2' : appendS (hL (X6 ++ [.own (cellsL FC l) 6])) (some B5.length) 6 80 (ownSV X6.length FC l.length) [.int .i64 u0, .int .i64 u1, .int .i64 u2, .int .i64 u3, .slice (rowSV true j1 u4).a u4.length u4.length true, .slice (rowSV true t1 u5).a u5.length u5.length true] 1 = some (ownSV X6.length FC (l ++ [(u0, u1, u2, u3, u4, u5)]).length, hL (X6 ++ [.own (cellsL FC (l ++ [(u0, u1, u2, u3, u4, u5)])) 6])) := ca2
  try simp -implicitDefEqProofs only [hL_next, cond_false, ro4, rk4, Option.bind_some, hU, w5, e6, ca1, ru, low, row_ints', row_texts', CU, ca2', ca3, MU, w7]
  have g1 : (apartA (.hp B4.length 6 0) (.hp (B5.length + 1) 0 0) = true) = True := apart_ne (by omega)
  have g2 : (apartA (appAddr (.slice (ownSV X6.length FC l.length).a (ownSV X6.length FC l.length).len (ownSV X6.length FC l.length).cap (ownSV X6.length FC l.length).tail) (.slice (.lp true [.int .i64 u0, .int .i64 u1, .int .i64 u2, .int .i64 u3, .slice (rowSV true j1 u4).a u4.length u4.length true, .slice (rowSV true t1 u5).a u5.length u5.length true] 0) 1 1 false) (some B5.length)) (.hp (B5.length + 1) 0 0) = true) = True := apart_ne (by omega)
  try simp -implicitDefEqProofs only [g1, g2, guardO_true, eq_self, decide_true, Bool.not_true, Bool.not_false, cond_true, cond_false, reserve0]
  -- behind the undo
  have h7 : B7.length = B5.length + 3 := by rw [hB7]; simp
  have b73 : ∀ v, ∃ v', B7 ++ v = B3 ++ v' := fun v => ⟨_, by rw [hB7, hB5, hB4, List.append_assoc, List.append_assoc, List.append_assoc, List.append_assoc]⟩
  have r55 : rdT (.leaf .slice) (hL B7) (.hp (B5.length + 1) 4 0) = some (rowSV true FC F2) := rd_m40 (m2 := K2) (m3 := I2) (m4 := R2) (by
    rw [hB7, List.append_assoc, List.getElem?_append_right (by omega), Nat.add_sub_cancel_left]
    rfl)
  have r56 : rdT (.leaf .slice) (hL B7) (.hp m 4 0) = some (rowSV true FC F1) := by obtain ⟨v', e⟩ := b73 []; rw [List.append_nil] at e; rw [e]; exact rM v'
  have c57 := cpFree_ok (f := true) (sl := B7) (xs := F1) (by omega) hsF hF0
  obtain ⟨B8, hB8⟩ : ∃ B8, B8 = B7 ++ [Slot.own (cutC (cellsL FC F1) i) 6] := ⟨_, rfl⟩
  have hcl1 : (cellsL FC F1).length = F1.length * 6 := flat_length (ls := FC) F1
  have D : deleteLoc (ownSV B7.length FC F1.length) (i : Int) (IntKind.i64.wrap ((i : Int) + 1)) (hL (B7 ++ [.own (cellsL FC F1) 6])) = some (⟨.hp B7.length (F1.length * 6) 0, F1.length - 1, F1.length, true⟩, hL B8) := by
    rw [i64_succ (by omega)]
    have hm7 : (hL (B7 ++ [Slot.own (cellsL FC F1) 6])).m B7.length = .own (cellsL FC F1) 6 := by rw [hL_m]; simp
    have o1 : (ownSV B7.length FC F1.length).a = .hp B7.length (F1.length * 6) 0 := rfl
    unfold deleteLoc
    rw [o1]
    simp only [hm7]
    rw [guardO_pos ⟨trivial, hcl1.symm, hcl1, rfl, rfl, by omega, by omega, by show (i : Int) < ((F1.length : Nat) : Int); omega, by show F1.length ≤ 2 ^ 20; omega⟩]
    rw [hL_put (by simp), set_new rfl, hB8]
    rfl
  have r59 : rdRow true (hL B8) FC ⟨.hp B7.length (F1.length * 6) 0, F1.length - 1, F1.length, true⟩ = some F2 := by
    have hlen : F2.length = F1.length - 1 := by rw [hF2, List.length_eraseIdx, if_pos hil]
    have hcc := cut_cells hil
    rw [← hF2] at hcc
    have := rd_prefix (lp := true) (sl := B8) (id := B7.length) (e := 6) (N := F1.length) (c := F1.length) (t := true) (zs := F2) (rest := zeros 1) (by rw [hB8, hcc]; simp) (by rw [← hcc]; exact cut_len hcl1 hil)
    rw [hlen] at this
    exact this
  have g3 : (apartA (.hp (B5.length + 1) 4 0) (ownSV B7.length FC F1.length).a = true) = True := apart_ne (by omega)
  have SM1 := RSame_ok F2 F2 (by omega) hone
  rw [decide_eq_true rfl] at SM1
  try simp -implicitDefEqProofs only [r55, Option.bind_some, r56, c57, D, row_facts, r59, SM1, g3, guardO_true, Bool.not_true, cond_false]
  -- the correction
  have h8 : B8.length = B5.length + 4 := by rw [hB8, List.length_append, h7]; rfl
  have b83 : ∀ v, ∃ v', B8 ++ v = B3 ++ v' := fun v => by obtain ⟨v', e⟩ := b73 ([Slot.own (cutC (cellsL FC F1) i) 6] ++ v); exact ⟨v', by rw [hB8, List.append_assoc, e]⟩
  have e8 : (hL B8).reserve 1 = hL (B8 ++ [Slot.fresh]) := by rw [hL_reserve]; rfl
  have k8 : rdT (.agg KC) (hL (B8 ++ [Slot.fresh])) (.hp B1.length 3 0) = some (k0, k1, k2) := by obtain ⟨v', e⟩ := b83 [Slot.fresh]; rw [e]; exact rk v'
  have o8 : rdT (.agg KC) (hL (B8 ++ [Slot.fresh])) (.hp B2.length 3 0) = some lastK := by obtain ⟨v', e⟩ := b83 [Slot.fresh]; rw [e]; exact ro v'
  have n8 : rdT (.agg FS) (hL (B8 ++ [Slot.fresh])) (.hp 0 6 0) = some (low false (n0, n1, n2, n3, n4, n5)) := by obtain ⟨v', e⟩ := b83 [Slot.fresh]; rw [e]; exact rN v'
  have CO := CO (k0, k1, k2) (n0, n1, n2, n3, n4, n5) ⟨by show n4.length ≤ _; omega, by show n5.length ≤ _; omega⟩
  try simp -implicitDefEqProofs only [e8, hL_next, k8, o8, n8, low, Option.bind_some, row_ints', row_texts', CPN, CO]
  have CM := corr_made (t := (k0, k1, k2)) (f := (n0, n1, n2, n3, n4, n5))
  have hcn : smallF (makeF (corrOf lastK (k0, k1, k2) (n0, n1, n2, n3, n4, n5))).1 := makeF_ok ⟨by show (_ ++ n4 : List Int).length ≤ _; simp; omega, by show n5.length ≤ _; omega⟩
  obtain ⟨c, hc⟩ : ∃ c, c = makeF (corrOf lastK (k0, k1, k2) (n0, n1, n2, n3, n4, n5)) := ⟨_, rfl⟩
  rw [← hc] at hcn CM ⊢
  obtain ⟨⟨c0, c1, c2, c3, c4, c5⟩, ce⟩ := c
  simp only at hcn CM
  obtain ⟨B9, hB9⟩ : ∃ B9, B9 = B8 ++ [cFt true (c0, c1, c2, c3, c4, c5)] := ⟨_, rfl⟩
  have w9 : H.wrs (H.put (hL (B8 ++ [Slot.fresh])) B8.length (.own [.int .i64 0, .int .i64 0, .int .i64 0, .int .i64 0, .slice .nil 0 0 false, .slice .nil 0 0 false] 6)) (.hp B8.length 6 0) [.int .i64 c0, .int .i64 c1, .int .i64 c2, .int .i64 c3, .slice (rowSV true j1 c4).a c4.length c4.length true, .slice (rowSV true t1 c5).a c5.length c5.length true] = some (hL B9) := by
    rw [hB9]; exact put_f (x := (c0, c1, c2, c3, c4, c5))
  have g4 : (apartA (.hp B2.length 3 0) (.hp B8.length 0 0) = true) = True := apart_ne (by omega)
  have g5 : (apartA (.hp B1.length 3 0) (.hp B8.length 0 0) = true) = True := apart_ne (by omega)
  have g6 : (apartA (.hp 0 6 0) (.hp B8.length 0 0) = true) = True := apart_ne (by omega)
  try simp -implicitDefEqProofs only [w9, Option.bind_some, g4, g5, g6, guardO_true]
  by_cases hce : ce = 0
  case neg =>
    rw [decide_eq_false hce]
    rfl
  subst hce
  obtain ⟨m1, m2, m3, m4⟩ := CM rfl
  have hceq : corrOf lastK (k0, k1, k2) (n0, n1, n2, n3, n4, n5) = (c0, c1, c2, c3, c4, c5) := (congrArg Prod.fst m1).symm
  rw [hceq] at m2 m3 m4
  have hc90 : c3 = 90 := by have := congrArg (fun x : Fct => x.2.2.2.1) hceq; exact this.symm
  have hckey : keyF (c0, c1, c2, c3, c4, c5) = lastK := by rw [← hceq]; rfl
  have hccor : corrects (c0, c1, c2, c3, c4, c5) = true := by rw [← hceq]; rfl
  have hctk : keyF (targetF (c0, c1, c2, c3, c4, c5)).1 = (k0, k1, k2) := by rw [m4]; rfl
  have CC := Copy_ok (c0, c1, c2, c3, c4, c5) hcn
  have hltc : ∀ f ∈ l, cmpK (keyF f) (keyF (c0, c1, c2, c3, c4, c5)) < 0 := fun f hf => by rw [hckey]; exact hlt f hf
  have FCn := FL (c0, c1, c2, c3, c4, c5) hltc hccor m3 i g hgi (by rw [hctk, hk])
  rw [if_pos hc90, m4] at FCn
  have hnfs : smallF (k0, k1, k2, n3, n4, n5) := ⟨by show n4.length ≤ _; omega, by show n5.length ≤ _; omega⟩
  obtain ⟨nf, hnf⟩ : ∃ nf : Fct, nf = (k0, k1, k2, n3, n4, n5) := ⟨_, rfl⟩
  rw [← hnf] at FCn hnfs
  have MC := Merge_ok (l ++ [(c0, c1, c2, c3, c4, c5)]) fun _ => by simp; omega
  have hcc0 : checkL (l ++ [(c0, c1, c2, c3, c4, c5)]) = 0 := checkL_of (by simp; omega) fun x hx => by
    rcases List.mem_append.1 hx with h | h
    · exact hchk x h
    · rw [List.mem_singleton.1 h]; exact m2
  rw [mergeF_eq hcc0, FCn] at MC
  generalize conF (onceF (l ++ [(c0, c1, c2, c3, c4, c5)])) = K3 at MC
  generalize idleF (cntF (onceF (l ++ [(c0, c1, c2, c3, c4, c5)]))) = I3 at MC
  generalize rfsF (cntF (onceF (l ++ [(c0, c1, c2, c3, c4, c5)]))) (cntF (onceF (l ++ [(c0, c1, c2, c3, c4, c5)]))) = R3 at MC
  -- the wanted facts
  have h9 : B9.length = B8.length + 1 := by rw [hB9]; simp
  have b93 : ∀ v, ∃ v', B9 ++ v = B3 ++ v' := fun v => by obtain ⟨v', e⟩ := b83 ([cFt true (c0, c1, c2, c3, c4, c5)] ++ v); exact ⟨v', by rw [hB9, List.append_assoc, e]⟩
  have bc9 : ∀ v, (B9 ++ v)[B8.length]? = some (cFt true (c0, c1, c2, c3, c4, c5)) := fun v => by rw [hB9]; simp
  have r79 : rdT (.leaf .slice) (hL B9) (.hp m 4 0) = some (rowSV true FC F1) := by obtain ⟨v', e⟩ := b93 []; rw [List.append_nil] at e; rw [e]; exact rM v'
  have c80 := cpFree_ok (f := true) (sl := B9) (xs := F1) (by omega) hsF hF0
  have k82 : rdT (.agg KC) (hL (B9 ++ [.own (cellsL FC F1) 6])) (.hp B1.length 3 0) = some (k0, k1, k2) := by obtain ⟨v', e⟩ := b93 [.own (cellsL FC F1) 6]; rw [e]; exact rk v'
  have p82 : rdT (.leaf (.int .i64)) (hL (B9 ++ [.own (cellsL FC F1) 6])) (.hp 0 6 3) = some n3 ∧ rdT (.leaf .slice) (hL (B9 ++ [.own (cellsL FC F1) 6])) (.hp 0 6 4) = some (rowSV false j1 n4) ∧ rdT (.leaf .slice) (hL (B9 ++ [.own (cellsL FC F1) 6])) (.hp 0 6 5) = some (rowSV false t1 n5) := by obtain ⟨v', e⟩ := b93 [.own (cellsL FC F1) 6]; rw [e]; exact rP v'
  obtain ⟨p83, p84, p85⟩ := p82
  have cl1 := clone_i n4 (by omega)
  have cl2 := clone_t n5 (by omega)
  try simp -implicitDefEqProofs only [eq_self, decide_true, Bool.not_true, cond_false, r79, Option.bind_some, c80, reserve0, k82, p83, p84, p85, row_ints', row_texts', cl1, cl2]
  obtain ⟨B11, hB11⟩ : ∃ B11, B11 = B9 ++ [Slot.own (cellsL FC (F1.set i nf)) 6] := ⟨_, rfl⟩
  have w11 : H.wrs (hL (B9 ++ [.own (cellsL FC F1) 6])) (V.add (ownSV B9.length FC F1.length).a (i * 6)) [.int .i64 k0, .int .i64 k1, .int .i64 k2, .int .i64 n3, .slice (rowSV true j1 n4).a n4.length n4.length true, .slice (rowSV true t1 n5).a n5.length n5.length true] = some (hL B11) := by
    have := wr_at (L := B9 ++ [.own (cellsL FC F1) 6]) (id := B9.length) (e := 6) (N := F1.length) (k := i) (ys := F1) (x := nf) (by simp) rfl hil
    rw [set_new rfl, ← hB11, hnf] at this
    exact this
  have hlen9 : (ownSV B9.length FC F1.length).len = F1.length := rfl
  rw [hlen9, guardO_pos (by omega), w11, Option.bind_some]
  have h11 : B11.length = B9.length + 1 := by rw [hB11]; simp
  have b11 : ∀ v, ∃ v', B11 ++ v = B9 ++ v' := fun v => ⟨_, by rw [hB11, List.append_assoc]⟩
  obtain ⟨X12, hX12⟩ : ∃ X12, X12 = B11 ++ [Slot.fresh, Slot.fresh] := ⟨_, rfl⟩
  have h12' : X12.length = B11.length + 2 := by rw [hX12]; simp
  have e12 : (hL B11).reserve 2 = hL X12 := by rw [hL_reserve, hX12]; rfl
  have rc : rdT (.agg FS) (hL (X12 ++ [.own (cellsL FC l) 6])) (.hp B8.length 6 0) = some (low true (c0, c1, c2, c3, c4, c5)) := (rds_cFt (f := true) (by
    obtain ⟨v', e⟩ := b11 ([Slot.fresh, Slot.fresh] ++ [.own (cellsL FC l) 6])
    rw [hX12, List.append_assoc, e]
    exact bc9 v')).1
  obtain ⟨da1, da2, da3⟩ := copy_app (X := X12) (l := l) (c := (c0, c1, c2, c3, c4, c5)) (at_ := some B11.length) (by omega) hsm hl0
  have da2' : appendS (hL (X12 ++ [.own (cellsL FC l) 6])) (some B11.length) 6 80 (ownSV X12.length FC l.length) [.int .i64 c0, .int .i64 c1, .int .i64 c2, .int .i64 c3, .slice (rowSV true j1 c4).a c4.length c4.length true, .slice (rowSV true t1 c5).a c5.length c5.length true] 1 = some (ownSV X12.length FC (l ++ [(c0, c1, c2, c3, c4, c5)]).length, hL (X12 ++ [.own (cellsL FC (l ++ [(c0, c1, c2, c3, c4, c5)])) 6])) := da2
  obtain ⟨B13, hB13⟩ : ∃ B13, B13 = B11 ++ [Slot.fresh, bM (F1.set i nf, K3, I3, R3)] ++ [Slot.own (cellsL FC (l ++ [(c0, c1, c2, c3, c4, c5)])) 6] := ⟨_, rfl⟩
  have w13 : H.wrs (H.put (hL (X12 ++ [.own (cellsL FC (l ++ [(c0, c1, c2, c3, c4, c5)])) 6])) (B11.length + 1) (.own [.slice .nil 0 0 false, .slice .nil 0 0 false, .slice .nil 0 0 false, .slice .nil 0 0 false] 4)) (.hp (B11.length + 1) 4 0) (cM (F1.set i nf) K3 I3 R3) = some (hL B13) := by
    rw [hX12, hB13]; exact put_m4
  have g7 : (apartA (.hp B8.length 6 0) (.hp (B11.length + 1) 0 0) = true) = True := apart_ne (by omega)
  have g8 : (apartA (appAddr (.slice (ownSV X12.length FC l.length).a (ownSV X12.length FC l.length).len (ownSV X12.length FC l.length).cap (ownSV X12.length FC l.length).tail) (.slice (.lp true [.int .i64 c0, .int .i64 c1, .int .i64 c2, .int .i64 c3, .slice (rowSV true j1 c4).a c4.length c4.length true, .slice (rowSV true t1 c5).a c5.length c5.length true] 0) 1 1 false) (some B11.length)) (.hp (B11.length + 1) 0 0) = true) = True := apart_ne (by omega)
  try simp -implicitDefEqProofs only [hL_next, e12, da1, Option.bind_some, rc, low, row_ints', row_texts', CC, da2', da3, MC, w13, g7, g8, guardO_true]
  -- without the fact
  have hkeep : (keepF (fun x => decide (keyF x = (k0, k1, k2))) l).length < l.length := by
    have : ∀ (l : List Fct), y0 ∈ l → (l.filter fun x => !decide (keyF x = (k0, k1, k2))).length < l.length := fun l => by
      induction l with
      | nil => intro h; cases h
      | cons a l ih =>
        intro h
        rw [List.filter_cons]
        rcases List.mem_cons.1 h with rfl | h
        · rw [hy0k]
          simp only [decide_true, Bool.not_true, Bool.false_eq_true, if_false, List.length_cons]
          have := List.length_filter_le (fun x => !decide (keyF x = (k0, k1, k2))) l
          omega
        · have := ih h
          split <;> simp only [List.length_cons] <;> omega
    exact this l hy0
  have b133 : ∀ v, ∃ v', B13 ++ v = B9 ++ v' := fun v => by
    obtain ⟨v', e⟩ := b11 ([Slot.fresh, bM (F1.set i nf, K3, I3, R3)] ++ ([Slot.own (cellsL FC (l ++ [(c0, c1, c2, c3, c4, c5)])) 6] ++ v))
    exact ⟨v', by rw [hB13, List.append_assoc, List.append_assoc, e]⟩
  have k13 : ∀ v, rdT (.agg KC) (hL (B13 ++ v)) (.hp B1.length 3 0) = some (k0, k1, k2) := fun v => by
    obtain ⟨v', e⟩ := b133 v
    obtain ⟨v2, e2⟩ := b93 v'
    rw [e, e2]
    exact rk v2
  have o13 : ∀ v, rdT (.agg KC) (hL (B13 ++ v)) (.hp B2.length 3 0) = some lastK := fun v => by
    obtain ⟨v', e⟩ := b133 v
    obtain ⟨v2, e2⟩ := b93 v'
    rw [e, e2]
    exact ro v2
  have c13 : ∀ v, rdT (.agg FS) (hL (B13 ++ v)) (.hp B8.length 6 0) = some (low true (c0, c1, c2, c3, c4, c5)) := fun v => (rds_cFt (f := true) (by
    obtain ⟨v', e⟩ := b133 v
    rw [e]
    exact bc9 v')).1
  have k130 := k13 []
  rw [List.append_nil] at k130
  obtain ⟨s1, t1', s2, t2', z1, z2, s3, t3', z3, z4⟩ := cut_app (X := B13) (l := l) (p := fun x => decide (keyF x = (k0, k1, k2))) (c := (c0, c1, c2, c3, c4, c5)) (T := law_ArrivalLast.tb) (v := .func 48 [.hp B1.length 3 0]) (by omega) hsm hkeep
    (fun x hx sl' hsl R k => call48 (T := law_ArrivalLast.tb) rfl x (rdT_frame (sl := B13) k130 fun j hj => by
      have := hsl j hj
      rw [List.getElem?_append_left (by
        have h := (List.getElem?_eq_getElem hj)
        rw [h] at this
        exact (List.getElem?_eq_some_iff.1 this).1), this]) k)
  have z3' : appendS (hL (B13 ++ t2')) none 6 80 s2 [.int .i64 c0, .int .i64 c1, .int .i64 c2, .int .i64 c3, .slice (rowSV true j1 c4).a c4.length c4.length true, .slice (rowSV true t1 c5).a c5.length c5.length true] 1 = some (s3, hL (B13 ++ t3')) := z3
  have hkl : (keepF (fun x => decide (keyF x = (k0, k1, k2))) l).length ≤ l.length := List.length_filter_le _ _
  have hkm : ∀ x ∈ keepF (fun x => decide (keyF x = (k0, k1, k2))) l, x ∈ l ∧ keyF x ≠ (k0, k1, k2) := fun x hx => by
    obtain ⟨h1, h2⟩ := List.mem_filter.1 hx
    simp only [Bool.not_eq_true', decide_eq_false_iff_not] at h2
    exact ⟨h1, h2⟩
  have IL := idle_last (l := keepF (fun x => decide (keyF x = (k0, k1, k2))) l) (c := (c0, c1, c2, c3, c4, c5)) (fun f hf => hltc f (hkm f hf).1) hccor m3 (by rw [hctk, hckey]; exact hkne) (fun f hf => by rw [hctk]; exact (hkm f hf).2)
  rw [hctk, hckey] at IL
  have MD := Merge_ok (keepF (fun x => decide (keyF x = (k0, k1, k2))) l ++ [(c0, c1, c2, c3, c4, c5)]) fun _ => by rw [List.length_append]; simp only [List.length_cons, List.length_nil]; omega
  have hcd : checkL (keepF (fun x => decide (keyF x = (k0, k1, k2))) l ++ [(c0, c1, c2, c3, c4, c5)]) = 0 := checkL_of (by rw [List.length_append]; simp only [List.length_cons, List.length_nil]; omega) fun x hx => by
    rcases List.mem_append.1 hx with h | h
    · exact hchk x (hkm x h).1
    · rw [List.mem_singleton.1 h]; exact m2
  have MS := mergeF_small (keepF (fun x => decide (keyF x = (k0, k1, k2))) l ++ [(c0, c1, c2, c3, c4, c5)])
  rw [mergeF_eq hcd] at MD MS
  simp only at MS
  generalize factsF (cntF (onceF (keepF (fun x => decide (keyF x = (k0, k1, k2))) l ++ [(c0, c1, c2, c3, c4, c5)]))) = F4 at MD MS IL
  generalize conF (onceF (keepF (fun x => decide (keyF x = (k0, k1, k2))) l ++ [(c0, c1, c2, c3, c4, c5)])) = K4 at MD MS IL
  generalize idleF (cntF (onceF (keepF (fun x => decide (keyF x = (k0, k1, k2))) l ++ [(c0, c1, c2, c3, c4, c5)]))) = I4 at MD MS IL
  generalize rfsF (cntF (onceF (keepF (fun x => decide (keyF x = (k0, k1, k2))) l ++ [(c0, c1, c2, c3, c4, c5)]))) (cntF (onceF (keepF (fun x => decide (keyF x = (k0, k1, k2))) l ++ [(c0, c1, c2, c3, c4, c5)]))) = R4 at MD MS IL
  rw [z1, Option.bind_some]
  simp only
  rw [z2, Option.bind_some]
  simp only
  have c13' := c13 t2'
  obtain ⟨B15, hB15⟩ : ∃ B15, B15 = B13 ++ t3' ++ [bM (F4, K4, I4, R4)] := ⟨_, rfl⟩
  have w15 : H.wrs ((hL (B13 ++ t3')).new [.slice .nil 0 0 false, .slice .nil 0 0 false, .slice .nil 0 0 false, .slice .nil 0 0 false] 4) (.hp (B13 ++ t3').length 4 0) (cM F4 K4 I4 R4) = some (hL B15) := by rw [hB15]; exact wr_m4
  try simp -implicitDefEqProofs only [c13', Option.bind_some, low, row_ints', row_texts', CC, z3', z4, MD, hL_next, w15]
  have b153 : ∀ v, ∃ v', B15 ++ v = B13 ++ v' := fun v => ⟨_, by rw [hB15, List.append_assoc, List.append_assoc]⟩
  have x15 : B15[(B13 ++ t3').length]? = some (bM (F4, K4, I4, R4)) := by rw [hB15]; simp
  have x125 : rdT (.leaf .slice) (hL B15) (.hp (B11.length + 1) 4 0) = some (rowSV true FC (F1.set i nf)) := rd_m40 (m2 := K3) (m3 := I3) (m4 := R3) (by
    rw [hB15, List.append_assoc, hB13, List.append_assoc, List.append_assoc, List.getElem?_append_right (by omega), Nat.add_sub_cancel_left]
    rfl)
  have x80 : rdRow true (hL B15) FC (ownSV B9.length FC F1.length) = some (F1.set i nf) := by
    have : rdRow true (hL B15) FC (ownSV B9.length FC (F1.set i nf).length) = some (F1.set i nf) := rdRow_own (e := 6) (by
      rw [hB15, List.append_assoc, hB13, List.append_assoc, List.append_assoc, hB11, List.append_assoc, List.getElem?_append_right (Nat.le_refl _), Nat.sub_self]
      rfl) rfl rfl
    rw [List.length_set] at this
    exact this
  have x129 : rdT (.leaf .slice) (hL B15) (.hp (B13 ++ t3').length 4 2) = some (rowSV true KC I4) := by
    rw [rd_own (g := 4) x15 rfl]
    rfl
  have x130 : rdT (.agg KC) (hL B15) (.hp B2.length 3 0) = some lastK := by obtain ⟨v', e⟩ := b153 []; rw [List.append_nil] at e; rw [e]; exact o13 v'
  have x133 : rdT (.leaf .slice) (hL B15) (.hp (B13 ++ t3').length 4 0) = some (rowSV true FC F4) := rd_m40 x15
  have SM2 := RSame_ok (F1.set i nf) (F1.set i nf) (by rw [List.length_set]; omega) (fun x hx => by
    rcases List.mem_or_eq_of_mem_set hx with h | h
    · exact hsF x h
    · rw [h]; exact hnfs)
  rw [decide_eq_true rfl] at SM2
  have CK := Contains_key I4 lastK (by omega)
  have hCK : (I4.any fun c => decide (lastK = c)) = true := List.any_eq_true.2 ⟨lastK, IL.1, by simp⟩
  rw [hCK] at CK
  obtain ⟨J5, hJ5⟩ := ContainsF_grow (T := law_ArrivalLast.tb) (v := .func 50 [.hp B1.length 3 0]) (B := B15) (xs := F4) (s := rowSV true FC F4) (f := true) (fun x => decide (keyF x = (k0, k1, k2))) rfl (by omega)
    (fun i x hx J => by rw [rd_fact, hx]; rfl) (fun x hx J R K => by
      have := call50 (T := law_ArrivalLast.tb) (sl := B15 ++ J) (p := .hp B1.length 3 0) (k := (k0, k1, k2)) (f := true) rfl x (by
        obtain ⟨v', e⟩ := b153 (J ++ [cFt true x])
        rw [List.append_assoc, e]
        exact k13 v') K
      rw [List.append_assoc B15] at this
      exact this)
  have hF4 : (F4.any fun x => decide (keyF x = (k0, k1, k2))) = false := List.any_eq_false.2 fun x hx => by
    rw [decide_eq_true_eq]
    exact IL.2 x hx
  rw [hF4] at hJ5
  try simp -implicitDefEqProofs only [eq_self, decide_true, cond_true, x125, Option.bind_some, x80, row_facts, SM2, x129, x130, row_keys', CK, x133, hJ5, Bool.not_false]
  try simp -implicitDefEqProofs only [evs, reduceIte, rdRes, rdTT, rdTy, rdLT, Res.un, TT.un, Ty.un, LT.un, Leaf.un, Leaf.plain, LT.plain]

end Go.Proofs.YtjkjcnadgpndoaaGreat
