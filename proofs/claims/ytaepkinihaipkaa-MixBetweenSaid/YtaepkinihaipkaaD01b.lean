/- What Divide of package proportion computes. Conditions: those of each law. -/
import Derived.Test.YtaepkinihaipkaaD01a
namespace Go.Proofs.Ytaepkinihaipkaa
open Go Go.Proofs.Ytaepkinihaipkaa.Ev
set_option linter.unusedVariables false
set_option linter.unusedSimpArgs false
set_option maxRecDepth 100000
set_option maxHeartbeats 4000000
theorem cmpI_ok (a b : Int) : cmp_Compare_intP a b = some (if a < b then -1 else if b < a then 1 else 0) := by
  unfold cmp_Compare_intP cmp_Compare_int
  have hn : ∀ x, cmp_isNaN_intP x = some false := fun x => by unfold cmp_isNaN_intP cmp_isNaN_int; simp -implicitDefEqProofs only [Option.bind_some, Option.bind_none, Option.map_some, Option.map_none, cond_true, cond_false, Bool.not_true, Bool.not_false, if_true, if_false, reduceIte, rdRes, rdTT, rdTy, rdLT, rdLeaf_int, rdLeaf_bool, rdLeaf_str, rdLeaf_row, Res.un, TT.un, Ty.un, LT.un, Leaf.un, rdRow_i1, rdRow_i2, rdRow_i3, rdRow_i4, rdRow_i5, rdRow_args, rdRow_res, rdRow_nil, Leaf.plain, LT.plain, List.isEmpty_cons, Bool.and_self, Bool.and_true, Bool.true_and, Bool.or_true, Bool.true_or, Bool.or_false, Bool.false_or, reserve0, rowSV_len, rowSV_cap, rowSV_tail, guardO_true, decide_true]
  simp -implicitDefEqProofs only [hn, Option.bind_some, Option.bind_none, Option.map_some, Option.map_none, cond_true, cond_false, Bool.not_true, Bool.not_false, if_true, if_false, reduceIte, rdRes, rdTT, rdTy, rdLT, rdLeaf_int, rdLeaf_bool, rdLeaf_str, rdLeaf_row, Res.un, TT.un, Ty.un, LT.un, Leaf.un, rdRow_i1, rdRow_i2, rdRow_i3, rdRow_i4, rdRow_i5, rdRow_args, rdRow_res, rdRow_nil, Leaf.plain, LT.plain, List.isEmpty_cons, Bool.and_self, Bool.and_true, Bool.true_and, Bool.or_true, Bool.true_or, Bool.or_false, Bool.false_or, reserve0, rowSV_len, rowSV_cap, rowSV_tail, guardO_true]
  by_cases h : a < b
  · rw [decide_eq_true h, if_pos h]; rfl
  · rw [decide_eq_false h, if_neg h]
    by_cases h2 : b < a
    · rw [decide_eq_true h2, if_pos h2]; rfl
    · rw [decide_eq_false h2, if_neg h2]; rfl
/-- The comparison of places by their rests. -/
def cmpR (rs : List Int) (x y : Int) : Int := if g rs y.toNat < g rs x.toNat then -1 else if g rs x.toNat < g rs y.toNat then 1 else 0
abbrev cellI (xs : List Int) : Slot := .own (cellsL [.int .i64] xs) 1
/-- The heap of Divide. -/
def dH (p r o : List Int) (n : Nat) : H := hL [cellI p, cellI r, cellI o, .own [.slice (.hp 1 n 0) n n true] 1]
theorem dH_rd3 {p r o : List Int} {n : Nat} : rdT (.leaf .slice) (dH p r o n) (.hp 3 1 0) = some ⟨.hp 1 n 0, n, n, true⟩ := by
  unfold dH
  rw [rd_own (g := 1) (cs := [.slice (.hp 1 n 0) n n true]) (e := 1) rfl rfl]
  rfl
theorem dH_rd0 {p r o : List Int} {n k : Nat} (hn : p.length = n) : rdT (.leaf (.int .i64)) (dH p r o n) (.hp 0 n (k * 1)) = p[k]? := by
  unfold dH
  rw [rd_ownL0 (ls := [.int .i64]) (xs := p) (w := 1) (e := 1) rfl (by simp [hn]) rfl (by omega)]
  cases p[k]? <;> simp [LT.lo, Leaf.lo, Leaf.pack]
theorem dH_rd1 {p r o : List Int} {n k : Nat} (hn : r.length = n) : rdT (.leaf (.int .i64)) (dH p r o n) (.hp 1 n (k * 1)) = r[k]? := by
  unfold dH
  rw [rd_ownL0 (ls := [.int .i64]) (xs := r) (w := 1) (e := 1) rfl (by simp [hn]) rfl (by omega)]
  cases r[k]? <;> simp [LT.lo, Leaf.lo, Leaf.pack]
theorem dH_rd2 {p r o : List Int} {n k : Nat} (hn : o.length = n) : rdT (.leaf (.int .i64)) (dH p r o n) (.hp 2 n (k * 1)) = o[k]? := by
  unfold dH
  rw [rd_ownL0 (ls := [.int .i64]) (xs := o) (w := 1) (e := 1) rfl (by simp [hn]) rfl (by omega)]
  cases o[k]? <;> simp [LT.lo, Leaf.lo, Leaf.pack]
theorem dH_wr0 {p r o : List Int} {n k : Nat} {x : Int} (hn : p.length = n) (hk : k < n) : H.wrs (dH p r o n) (.hp 0 n (k * 1)) [.int .i64 x] = some (dH (p.set k x) r o n) := by
  unfold dH
  rw [wrs_ownL (ls := [.int .i64]) (xs := p) (w := 1) (e := 1) (x := x) (vs := [.int .i64 x]) rfl (by simp [hn]) rfl (by omega) rfl]
  rfl
theorem dH_wr1 {p r o : List Int} {n k : Nat} {x : Int} (hn : r.length = n) (hk : k < n) : H.wrs (dH p r o n) (.hp 1 n (k * 1)) [.int .i64 x] = some (dH p (r.set k x) o n) := by
  unfold dH
  rw [wrs_ownL (ls := [.int .i64]) (xs := r) (w := 1) (e := 1) (x := x) (vs := [.int .i64 x]) rfl (by simp [hn]) rfl (by omega) rfl]
  rfl
theorem dH_wr2 {p r o : List Int} {n k : Nat} {x : Int} (hn : o.length = n) (hk : k < n) : H.wrs (dH p r o n) (.hp 2 n (k * 1)) [.int .i64 x] = some (dH p r (o.set k x) n) := by
  unfold dH
  rw [wrs_ownL (ls := [.int .i64]) (xs := o) (w := 1) (e := 1) (x := x) (vs := [.int .i64 x]) rfl (by simp [hn]) rfl (by omega) rfl]
  rfl
theorem dH_hS {p r o o' : List Int} {n : Nat} : hS [cellI p, cellI r, cellI o', .own [.slice (.hp 1 n 0) n n true] 1] 2 o = dH p r o n := rfl
theorem Divide1_ok {p r o : List Int} {n : Nat} {x y : Int} (hr : r.length = n) (hx : 0 ≤ x ∧ x < n) (hy : 0 ≤ y ∧ y < n) : proportion_Divide_1 x y (.hp 3 1 0) (dH p r o n) = some (cmpR r x y, dH p r o n) := by
  unfold proportion_Divide_1
  simp -implicitDefEqProofs only [reserve0, dH_rd3, Option.bind_some]
  rw [guardO_pos (by omega), add_hp, dH_rd1 hr, g_some (by omega)]
  simp -implicitDefEqProofs only [Option.bind_some]
  rw [guardO_pos (by omega), add_hp, dH_rd1 hr, g_some (by omega)]
  simp -implicitDefEqProofs only [Option.bind_some, cmpI_ok]
  rfl
theorem divide_loop1 {a S : Int} {ws : List Int} {f : Bool} (ha : isAmt a = true) (hws : ws.all isAmt = true) (hS : isAmt S = true) (hS0 : 0 < S) (hSw : ∀ w ∈ ws, w ≤ S) (hsum : (quos a S ws).sum ≤ a) (hl : ws.length ≤ 64) :
    iter FUEL (proportion_Divide.loop1 (hL []) a (rowSV f [.int .i64] ws) S) ((a, 0), dH (List.replicate ws.length 0) (List.replicate ws.length 0) (List.replicate ws.length 0) ws.length) =
      some (.ex0 (a - (quos a S ws).sum), dH (quos a S ws) (rems a S ws) (iota ws.length) ws.length) := by
  have hq := quo_nonneg (a := a) (S := S) (ws := ws) (isAmt_iff.1 ha).1 hS0 (fun w hw => (all_amt hws w hw).1)
  have ha' := isAmt_iff.1 ha
  have hS' := isAmt_iff.1 hS
  refine (iter_from (f := proportion_Divide.loop1 (hL []) a (rowSV f [.int .i64] ws) S) (fun i => ((a - ((quos a S ws).take i).sum, (i : Int)), dH (fillTo (quos a S ws) i) (fillTo (rems a S ws) i) (fillTo (iota ws.length) i) ws.length)) ?_ ws.length FUEL (fun i hi => ?_) ?_ (fuel_gt (by omega)))
  · simp only [List.take_zero, List.sum_nil, Int.sub_zero, fillTo_zero, quos_length, rems_length, iota_length]
    rfl
  · have hw := all_amt hws _ (List.getElem_mem hi)
    have hwS := hSw _ (List.getElem_mem hi)
    have hx := List.getElem?_eq_getElem hi
    have hgq : g (quos a S ws) i = a * ws[i] / S := by rw [quos, g_map hi, g_eq hi]
    have hgr : g (rems a S ws) i = a * ws[i] % S := by rw [rems, g_map hi, g_eq hi]
    have k1 := sum_take_le hq i
    have k2 := sum_take_le hq (i + 1)
    have k3 := sum_take_succ (ws := quos a S ws) (i := i) (by rw [quos_length]; exact hi)
    rw [← g_eq] at k3
    unfold proportion_Divide.loop1
    simp -implicitDefEqProofs only [rowSV_len, Int.toNat_natCast, Nat.mul_one, Nat.zero_add, reserve0, hL_next, List.length_nil]
    rw [decide_eq_true (by omega), cond_true, guardO_pos (by omega), show V.add (rowSV f [.int .i64] ws).a i = V.add (rowSV f [.int .i64] ws).a (i * 1) by rw [Nat.mul_one], rd_rowI, hx]
    simp -implicitDefEqProofs only [Option.bind_some, dH_rd3]
    rw [divided_ok ha (isAmt_iff.2 hw) hS (by omega), divOf_small ha hS0 hw.1 hwS, ← hgq, ← hgr]
    simp -implicitDefEqProofs only [Option.bind_some]
    have d0 := dH_wr0 (p := fillTo (quos a S ws) i) (r := fillTo (rems a S ws) i) (o := fillTo (iota ws.length) i) (n := ws.length) (k := i) (x := g (quos a S ws) i) (by rw [fillTo_length (by rw [quos_length]; omega), quos_length]) hi
    rw [fillTo_set (by rw [quos_length]; exact hi), Nat.mul_one] at d0
    rw [guardO_pos (by omega), d0]
    simp -implicitDefEqProofs only [Option.bind_some]
    have d1 := dH_wr1 (p := fillTo (quos a S ws) (i + 1)) (r := fillTo (rems a S ws) i) (o := fillTo (iota ws.length) i) (n := ws.length) (k := i) (x := g (rems a S ws) i) (by rw [fillTo_length (by rw [rems_length]; omega), rems_length]) hi
    rw [fillTo_set (by rw [rems_length]; exact hi), Nat.mul_one] at d1
    rw [guardO_pos (by omega), add_hp, d1]
    simp -implicitDefEqProofs only [Option.bind_some]
    have d2 := dH_wr2 (p := fillTo (quos a S ws) (i + 1)) (r := fillTo (rems a S ws) (i + 1)) (o := fillTo (iota ws.length) i) (n := ws.length) (k := i) (x := g (iota ws.length) i) (by rw [fillTo_length (by rw [iota_length]; omega), iota_length]) hi
    rw [fillTo_set (by rw [iota_length]; exact hi), Nat.mul_one, g_iota hi] at d2
    rw [guardO_pos (p := apartA _ _ = true) rfl, guardO_pos (by omega), d2]
    simp -implicitDefEqProofs only [Option.bind_some]
    have d3 := dH_rd0 (p := fillTo (quos a S ws) (i + 1)) (r := fillTo (rems a S ws) (i + 1)) (o := fillTo (iota ws.length) (i + 1)) (n := ws.length) (k := i) (by rw [fillTo_length (by rw [quos_length]; omega), quos_length])
    rw [Nat.mul_one, g_some (by rw [fillTo_length (by rw [quos_length]; omega), quos_length]; exact hi), g_fillTo (by rw [quos_length]; omega) (by rw [quos_length]; exact hi), if_pos (by omega)] at d3
    rw [guardO_pos (by omega), d3]
    simp -implicitDefEqProofs only [Option.bind_some]
    rw [i64_in _ (by omega), i64_succ (by omega), show a - ((quos a S ws).take i).sum - g (quos a S ws) i = a - ((quos a S ws).take (i + 1)).sum by omega]
  · have e1 := fillTo_all (xs := quos a S ws)
    have e2 := fillTo_all (xs := rems a S ws)
    have e3 := fillTo_all (xs := iota ws.length)
    rw [quos_length] at e1
    rw [rems_length] at e2
    rw [iota_length] at e3
    simp only [e1, e2, e3]
    rw [show (quos a S ws).take ws.length = quos a S ws by rw [← quos_length (a := a) (S := S) (ws := ws), List.take_length]]
    unfold proportion_Divide.loop1
    simp -implicitDefEqProofs only [rowSV_len]
    rw [decide_eq_false (by omega), cond_false]
theorem divide_loop2 {qs rs os : List Int} {n k : Nat} {f : Bool} {ws : List Int} (hw : ws.length = n) (hq : qs.length = n) (ho : os.length = n) (hnd : os.Nodup) (hr : ∀ i, i < n → 0 ≤ g os i ∧ g os i < n) (hk : k ≤ n) (hn : n ≤ 64) (hb : ∀ q ∈ qs, 0 ≤ q ∧ q ≤ 128849018880000) :
    iter FUEL (proportion_Divide.loop2 (hL []) (rowSV f [.int .i64] ws) (k : Int)) (0, dH qs rs os n) = some (.ex0 (), dH (bump qs os k) rs os n) := by
  refine (iter_from (f := proportion_Divide.loop2 (hL []) (rowSV f [.int .i64] ws) (k : Int)) (fun i => ((i : Int), dH (bump qs os i) rs os n)) ?_ k FUEL (fun i hi => ?_) ?_ (fuel_gt (by omega)))
  · rw [bump_zero]; rfl
  · have hri := hr i (by omega)
    obtain ⟨x, hx⟩ : ∃ x : Nat, g os i = (x : Int) := ⟨(g os i).toNat, by omega⟩
    have hqx := hb (g qs x) (g_mem (by omega))
    unfold proportion_Divide.loop2
    simp -implicitDefEqProofs only [rowSV_len, Int.toNat_natCast, Nat.mul_one, Nat.zero_add, hL_next, List.length_nil, hw]
    have d2 := dH_rd2 (p := bump qs os i) (r := rs) (o := os) (n := n) (k := i) ho
    rw [Nat.mul_one, g_some (by omega), hx] at d2
    rw [decide_eq_true (by omega), cond_true, guardO_pos (by omega), d2]
    simp -implicitDefEqProofs only [Option.bind_some, Int.toNat_natCast]
    have d0 := dH_rd0 (p := bump qs os i) (r := rs) (o := os) (n := n) (k := x) (by rw [bump_length, hq])
    rw [Nat.mul_one, g_some (by rw [bump_length]; omega)] at d0
    have hgx : 0 ≤ (x : Int) ∧ (x : Int) < (n : Int) := by rw [← hx]; exact hri
    rw [guardO_pos hgx, d0]
    simp -implicitDefEqProofs only [Option.bind_some]
    have hgb := g_bump (qs := qs) (os := os) (k := i) (i := x) (by omega)
    have hle : g (bump qs os i) x ≤ 128849018880001 ∧ 0 ≤ g (bump qs os i) x := by
      rw [hgb]; split <;> omega
    rw [guardO_pos hgx, i64_in _ (by omega)]
    have d1 := dH_wr0 (p := bump qs os i) (r := rs) (o := os) (n := n) (k := x) (x := g (bump qs os i) x + 1) (by rw [bump_length, hq]) (by omega)
    rw [Nat.mul_one, bump_succ hnd (by omega) hx (by omega)] at d1
    rw [d1]
    simp -implicitDefEqProofs only [Option.bind_some]
    rw [i64_succ (by omega)]
  · unfold proportion_Divide.loop2
    simp -implicitDefEqProofs only []
    rw [decide_eq_false (by omega), cond_false]
theorem Divide_ok (a : Int) (ws : List Int) (hl : ws.length < 2 ^ 63) : proportion_DivideP a ws = some (divideOf a ws) := by
  unfold proportion_DivideP proportion_Divide divideOf
  simp -implicitDefEqProofs only [Option.bind_some, Option.bind_none, Option.map_some, Option.map_none, cond_true, cond_false, Bool.not_true, Bool.not_false, if_true, if_false, reduceIte, rdRes, rdTT, rdTy, rdLT, rdLeaf_int, rdLeaf_bool, rdLeaf_str, rdLeaf_row, Res.un, TT.un, Ty.un, LT.un, Leaf.un, rdRow_i1, rdRow_i2, rdRow_i3, rdRow_i4, rdRow_i5, rdRow_args, rdRow_res, rdRow_nil, Leaf.plain, LT.plain, List.isEmpty_cons, Bool.and_self, Bool.and_true, Bool.true_and, Bool.or_true, Bool.true_or, Bool.or_false, Bool.false_or, reserve0, rowSV_len, rowSV_cap, rowSV_tail, guardO_true, weigh_ok a ws hl]
  by_cases he : (weighOf a ws).2 = 0
  · rw [if_pos he, he]
    obtain ⟨ha, h0, h64, hall, hSa, hne, h1⟩ := weighOf_ok he
    rw [h1]
    have hS' := isAmt_iff.1 hSa
    have hlb := left_bound (a := a) (ws := ws) (by omega) h0
    have ha' := isAmt_iff.1 ha
    simp -implicitDefEqProofs only [decide_true, Bool.not_true, cond_false, Int.toNat_natCast, Nat.mul_one, hL_empty, hL_reserve, hL_next, List.length_nil, Nat.zero_add, List.replicate, List.nil_append, repeat_zero]
    rw [guardO_pos (⟨by omega, by omega, by unfold roomCells; omega, by omega, trivial⟩), guardO_pos (⟨by omega, by omega, by unfold roomCells; omega, by omega, trivial⟩), guardO_pos (⟨by omega, by omega, by unfold roomCells; omega, by omega, trivial⟩)]
    rw [hL_put (by simp), hL_put (by simp), hL_put (by simp), hL_put (by simp)]
    simp -implicitDefEqProofs only [List.set_cons_zero, List.set_cons_succ]
    rw [wrs_own (g := 1) (cs := [.slice .nil 0 0 false]) (e := 1) rfl rfl (by simp)]
    simp -implicitDefEqProofs only [Option.bind_some, List.set_cons_zero, List.set_cons_succ, splice, List.take_zero, List.nil_append, List.length_cons, List.length_nil, Nat.zero_add, List.drop_succ_cons, List.drop_zero, List.drop_nil, List.append_nil]
    rw [guardO_pos (p := apartA _ _ = true) rfl]
    have hl1 := divide_loop1 (f := false) ha hall hSa (by omega) (fun w hw => mem_le_sum (fun y hy => (all_amt hall y hy).1) hw) (by omega) h64
    unfold dH at hl1
    rw [hl1]
    simp -implicitDefEqProofs only [Option.bind_some]
    obtain ⟨left, hleft⟩ : ∃ k : Nat, a - (quos a ws.sum ws).sum = (k : Int) := ⟨(a - (quos a ws.sum ws).sum).toNat, by omega⟩
    obtain ⟨ys, s1, s2, s3, s4⟩ := SortStable_ok (T := proportion_Divide.tb) (v := .func 53 [.hp 3 1 0]) (sl := [cellI (quos a ws.sum ws), cellI (rems a ws.sum ws), cellI (iota ws.length), .own [.slice (.hp 1 ws.length 0) ws.length ws.length true] 1]) (id := 2) (n := ws.length) (t := true) (D := fun x => 0 ≤ x ∧ x < ws.length) (c := cmpR (rems a ws.sum ws)) (lt := ltR (rems a ws.sum ws)) (by simp) h64
      (fun x y xs hx hy hxs R k => by
        show (proportion_Divide_1 x y (.hp 3 1 0) (hS [cellI (quos a ws.sum ws), cellI (rems a ws.sum ws), cellI (iota ws.length), .own [.slice (.hp 1 ws.length 0) ws.length ws.length true] 1] 2 xs)).bind (fun p => k (.int .i64 p.1) p.2) = _
        rw [dH_hS, Divide1_ok rems_length hx hy]
        rfl) (fun x y z => ltR_trans x y z) (xs := iota ws.length) iota_length (fun k hk => by rw [g_iota hk]; omega) (fun p q hpq hq => by
        rw [g_iota (k := q) hq, g_iota (k := p) (by omega)]
        unfold Says cmpR ltR
        simp only [Int.toNat_natCast]
        constructor
        · intro h; split at h
          · left; assumption
          · split at h <;> omega
        · intro h; split at h
          · omega
          · split at h <;> omega)
    have hys : ys = ord (rems a ws.sum ws) := ord_uniq (by rw [rems_length]; exact s3) (fun p q h1 h2 => by rw [rems_length] at h2; exact s4 p q h1 h2)
    rw [hys] at s1
    rw [dH_hS, dH_hS] at s1
    unfold dH sS at s1
    rw [s1]
    simp -implicitDefEqProofs only [Option.bind_some, hleft]
    have hl2 := divide_loop2 (f := false) (qs := quos a ws.sum ws) (rs := rems a ws.sum ws) (os := ord (rems a ws.sum ws)) (n := ws.length) (k := left) (ws := ws) rfl quos_length (by rw [ord_length, rems_length]) ord_nodup (fun i hi => by
        have := ord_range (rs := rems a ws.sum ws) (p := i) (by rw [rems_length]; exact hi)
        rwa [rems_length] at this) (by omega) h64 (fun q hq => by
        obtain ⟨w, hw, rfl⟩ := List.mem_map.1 hq
        have k1 := all_amt hall w hw
        have k2 := mem_le_sum (fun y hy => (all_amt hall y hy).1) hw
        have k3 := quo_le (a := a) (S := ws.sum) (w := w) ha'.1 (by omega) k2
        exact ⟨Int.ediv_nonneg (Int.mul_nonneg ha'.1 k1.1) (by omega), by omega⟩)
    unfold dH at hl2
    rw [hl2]
    simp -implicitDefEqProofs only [Option.bind_some]
    unfold divParts
    rw [hleft, Int.toNat_natCast]
    have hb : (bump (quos a ws.sum ws) (ord (rems a ws.sum ws)) left).length = ws.length := by rw [bump_length, quos_length]
    have hread := rdRow_own (lp := false) (ls := [.int .i64]) (xs := bump (quos a ws.sum ws) (ord (rems a ws.sum ws)) left) (sl := [cellI (bump (quos a ws.sum ws) (ord (rems a ws.sum ws)) left), cellI (rems a ws.sum ws), cellI (ord (rems a ws.sum ws)), .own [.slice (.hp 1 ws.length 0) ws.length ws.length true] 1]) (id := 0) (e := 1) (n := ws.length) (c := ws.length) (t := true) rfl (by rw [hb]; simp) rfl
    rw [hb] at hread
    rw [hread]
    rfl
  · rw [if_neg he, decide_eq_false he]
    simp -implicitDefEqProofs only [Option.bind_some, Option.bind_none, Option.map_some, Option.map_none, cond_true, cond_false, Bool.not_true, Bool.not_false, if_true, if_false, reduceIte, rdRes, rdTT, rdTy, rdLT, rdLeaf_int, rdLeaf_bool, rdLeaf_str, rdLeaf_row, Res.un, TT.un, Ty.un, LT.un, Leaf.un, rdRow_i1, rdRow_i2, rdRow_i3, rdRow_i4, rdRow_i5, rdRow_args, rdRow_res, rdRow_nil, Leaf.plain, LT.plain, List.isEmpty_cons, Bool.and_self, Bool.and_true, Bool.true_and, Bool.or_true, Bool.true_or, Bool.or_false, Bool.false_or, reserve0, rowSV_len, rowSV_cap, rowSV_tail, guardO_true]
end Go.Proofs.Ytaepkinihaipkaa
