/- What the functions of this seat compute: some texts in one. Conditions: those of each law. -/
import Derived.Test.YtbcpdecgfdlaaaaShDr0
/- What the parts of a division are: their sum, their bounds; what Draw computes. Conditions: those of each law. -/
namespace Go.Proofs.Ytbcpdecgfdlaaaa
open Go Go.Proofs.Ytbcpdecgfdlaaaa.Ev
set_option linter.unusedVariables false
set_option linter.unusedSimpArgs false
set_option maxRecDepth 100000
set_option maxHeartbeats 4000000
theorem perm_sum {xs ys : List Int} (h : xs.Perm ys) : xs.sum = ys.sum := by
  induction h with
  | nil => rfl
  | cons x _ ih => simp only [List.sum_cons, ih]
  | swap x y _ => simp only [List.sum_cons]; omega
  | trans _ _ h1 h2 => rw [h1, h2]
theorem sum_set : ∀ (xs : List Int) (i : Nat) (y : Int), i < xs.length → (xs.set i y).sum = xs.sum - g xs i + y
  | [], _, _, h => by simp at h
  | x :: xs, 0, y, _ => by simp [g]; omega
  | x :: xs, i + 1, y, h => by
    have := sum_set xs i y (by simpa using h)
    simp only [List.set_cons_succ, List.sum_cons, this]
    simp [g]
    omega
theorem sum_split_le : ∀ (xs : List Int) (p : Nat) (M : Int), 0 ≤ M → (∀ x ∈ xs, x ≤ M) → (∀ q, p ≤ q → q < xs.length → g xs q ≤ 0) → xs.sum ≤ p * M
  | [], p, M, h, _, _ => by simpa using Int.mul_nonneg (by omega) h
  | x :: xs, 0, M, h, h1, h2 => by
    have k1 := h2 0 (by omega) (by simp)
    have k2 := sum_split_le xs 0 M h (fun y hy => h1 y (by simp [hy])) (fun q _ hq => by have := h2 (q + 1) (by omega) (by simpa using hq); simpa [g] using this)
    simp only [g, List.getElem?_cons_zero, Option.getD_some] at k1
    simp only [List.sum_cons]
    omega
  | x :: xs, p + 1, M, h, h1, h2 => by
    have k1 := h1 x (by simp)
    have k2 := sum_split_le xs p M h (fun y hy => h1 y (by simp [hy])) (fun q hp hq => by have := h2 (q + 1) (by omega) (by simpa using hq); simpa [g] using this)
    simp only [List.sum_cons]
    rw [Int.natCast_add, Int.natCast_one, Int.add_mul, Int.one_mul]
    omega
theorem bump_sum {qs rs : List Int} (hl : rs.length = qs.length) : ∀ (k : Nat), k ≤ qs.length → (bump qs (ord rs) k).sum = qs.sum + k
  | 0, _ => by rw [bump_zero]; simp
  | k + 1, h => by
    have hr := ord_range (rs := rs) (p := k) (by omega)
    obtain ⟨x, hx⟩ : ∃ x : Nat, g (ord rs) k = (x : Int) := ⟨(g (ord rs) k).toNat, by omega⟩
    rw [← bump_succ ord_nodup (by rw [ord_length]; omega) hx (by omega), sum_set _ _ _ (by rw [bump_length]; omega), bump_sum hl k (by omega)]
    omega
theorem divParts_length {a S : Int} {ws : List Int} : (divParts a S ws).length = ws.length := by unfold divParts; rw [bump_length, quos_length]
theorem divParts_sum {a : Int} {ws : List Int} (hS : 0 < ws.sum) (hl : 0 < ws.length) : (divParts a ws.sum ws).sum = a := by
  have h := left_bound (a := a) hS hl
  unfold divParts
  rw [bump_sum (by rw [rems_length, quos_length]) _ (by rw [quos_length]; omega)]
  omega
theorem g_rems {a S : Int} {ws : List Int} {k : Nat} (h : k < ws.length) : g (rems a S ws) k = a * g ws k % S := g_map h
theorem g_quos {a S : Int} {ws : List Int} {k : Nat} (h : k < ws.length) : g (quos a S ws) k = a * g ws k / S := g_map h
theorem map_iota (rs : List Int) : (iota rs.length).map (fun x => g rs x.toNat) = rs := g_ext (by simp [iota_length]) fun k hk => by
  rw [List.length_map, iota_length] at hk
  rw [g_map (by rw [iota_length]; exact hk), g_iota hk, Int.toNat_natCast]
/-- Whoever gets one more has a rest. -/
theorem rem_pos {a : Int} {ws : List Int} {p : Nat} (hS : 0 < ws.sum) (hl : 0 < ws.length) (hp : (p : Int) < a - (quos a ws.sum ws).sum) : 0 < g (rems a ws.sum ws) (g (ord (rems a ws.sum ws)) p).toNat := by
  have hb := left_bound (a := a) hS hl
  have hs := quo_sum a ws.sum ws
  have hrl := rems_length (a := a) (S := ws.sum) (ws := ws)
  generalize hrs : rems a ws.sum ws = rs at *
  generalize (quos a ws.sum ws).sum = q at *
  have hr0 : ∀ k, k < rs.length → 0 ≤ g rs k ∧ g rs k ≤ ws.sum - 1 := fun k hk => by
    rw [← hrs, g_rems (by omega)]
    have k1 := Int.emod_nonneg (a * g ws k) (b := ws.sum) (by omega)
    have k2 := Int.emod_lt_of_pos (a * g ws k) hS
    omega
  have hpo := ord_range (rs := rs) (p := p) (by omega)
  refine Int.not_le.1 fun hle => ?_
  have hsum : rs.sum = ((ord rs).map fun x => g rs x.toNat).sum := by
    rw [perm_sum (ord_perm.map _), map_iota]
  have hle2 := sum_split_le ((ord rs).map fun x => g rs x.toNat) p (ws.sum - 1) (by omega) (fun x hx => by
      obtain ⟨y, hy, rfl⟩ := List.mem_map.1 hx
      have := mem_iota.1 (ord_perm.mem_iff.1 hy)
      exact (hr0 _ (by omega)).2) (fun j hj hjl => by
      rw [List.length_map, ord_length] at hjl
      rw [g_map (by rw [ord_length]; exact hjl)]
      by_cases e : j = p
      · subst e; exact hle
      · have := ord_lt (rs := rs) (show p < j by omega) hjl
        unfold ltR at this
        omega)
  rw [← hsum] at hle2
  have e1 : rs.sum = ws.sum * (a - q) := by rw [Int.mul_sub, Int.mul_comm ws.sum a]; omega
  have k1 : ws.sum * (p + 1) ≤ ws.sum * (a - q) := Int.mul_le_mul_of_nonneg_left (by omega) (by omega)
  rw [Int.mul_add, Int.mul_one, Int.mul_comm] at k1
  rw [Int.mul_sub, Int.mul_one] at hle2
  omega
theorem part_bound {a : Int} {ws : List Int} {i : Nat} (ha : 0 ≤ a) (hS : 0 < ws.sum) (haS : a ≤ ws.sum) (hw : ∀ w ∈ ws, 0 ≤ w) (hi : i < ws.length) : 0 ≤ g (divParts a ws.sum ws) i ∧ g (divParts a ws.sum ws) i ≤ g ws i := by
  have hl : 0 < ws.length := by omega
  have hb := left_bound (a := a) hS hl
  have hwi := hw _ (g_mem hi)
  have e1 := Int.mul_ediv_add_emod (a * g ws i) ws.sum
  have e2 := Int.emod_nonneg (a * g ws i) (b := ws.sum) (by omega)
  have e3 : a * g ws i ≤ ws.sum * g ws i := Int.mul_le_mul_of_nonneg_right haS hwi
  have e0 : 0 ≤ a * g ws i / ws.sum := Int.ediv_nonneg (Int.mul_nonneg ha hwi) (by omega)
  have hlt : (i : Int) ∈ (ord (rems a ws.sum ws)).take (a - (quos a ws.sum ws).sum).toNat → 0 < a * g ws i % ws.sum := fun h => by
    obtain ⟨p, hp, e⟩ := List.getElem_of_mem h
    rw [List.getElem_take] at e
    rw [List.length_take, ord_length, rems_length] at hp
    have := rem_pos (a := a) (p := p) hS hl (by omega)
    rw [g_eq (xs := ord _) (by rw [ord_length, rems_length]; omega), e, Int.toNat_natCast, g_rems hi] at this
    exact this
  unfold divParts
  rw [g_bump (by rw [quos_length]; exact hi), g_quos hi]
  generalize a * g ws i / ws.sum = q at *
  generalize a * g ws i % ws.sum = r at *
  by_cases h : (i : Int) ∈ (ord (rems a ws.sum ws)).take (a - (quos a ws.sum ws).sum).toNat
  · rw [if_pos h]
    have := hlt h
    have : ws.sum * q < ws.sum * g ws i := by omega
    have := Int.lt_of_mul_lt_mul_left this (by omega)
    omega
  · rw [if_neg h]
    have : ws.sum * q ≤ ws.sum * g ws i := by omega
    have := Int.le_of_mul_le_mul_left this hS
    omega
/-- What is left of some weights, up to a place. -/
def less (ws ps : List Int) (k : Nat) : List Int := (List.range ws.length).map fun i : Nat => if i < k then g ws i - g ps i else g ws i
theorem less_length {ws ps : List Int} {k : Nat} : (less ws ps k).length = ws.length := by simp [less]
theorem g_less {ws ps : List Int} {k i : Nat} (h : i < ws.length) : g (less ws ps k) i = if i < k then g ws i - g ps i else g ws i := g_ofFn h
theorem less_zero {ws ps : List Int} : less ws ps 0 = ws := g_ext less_length fun k hk => by
  rw [less_length] at hk
  rw [g_less hk]; simp
theorem less_succ {ws ps : List Int} {k : Nat} (hk : k < ws.length) : (less ws ps k).set k (g ws k - g ps k) = less ws ps (k + 1) := by
  refine g_ext (by simp [less_length]) fun i hi => ?_
  rw [List.length_set, less_length] at hi
  rw [g_set (by rw [less_length]; exact hk), g_less hi, g_less hi]
  by_cases e : i = k
  · subst e; rw [if_pos rfl, if_pos (by omega)]
  · rw [if_neg e]
    by_cases h : i < k
    · rw [if_pos h, if_pos (by omega)]
    · rw [if_neg h, if_neg (by omega)]
def drawP (ws : List Int) (a : Int) : List Int × List Int × Int :=
  if (weighOf a ws).2 = 0 then (if (weighOf a ws).1 < a then ([], [], 17) else (divParts a (weighOf a ws).1 ws, less ws (divParts a (weighOf a ws).1 ws) ws.length, 0)) else ([], [], (weighOf a ws).2)
theorem draw_loop {ws ps : List Int} {n : Nat} (hw : ws.length = n) (hp : ps.length = n) (hn : n ≤ 64) (h : ∀ i, i < n → 0 ≤ g ps i ∧ g ps i ≤ g ws i ∧ g ws i ≤ 128849018880000) :
    iter FUEL (proportion_Draw.loop1 ps (ownSV 0 [.int .i64] n)) (0, hL [cellI ws]) = some (.ex0 (), hL [cellI (less ws ps n)]) := by
  have hrd : ∀ {r : List Int} {k : Nat}, r.length = n → k < n → rdT (.leaf (.int .i64)) (hL [cellI r]) (.hp 0 n (k * 1)) = some (g r k) := fun {r k} hr hk => by
    rw [rd_ownL0 (ls := [.int .i64]) (xs := r) (w := 1) (e := 1) rfl (by simp [hr]) rfl (by omega), g_some (by omega)]
    simp [LT.lo, Leaf.lo, Leaf.pack]
  refine (iter_from (f := proportion_Draw.loop1 ps (ownSV 0 [.int .i64] n)) (fun i => ((i : Int), hL [cellI (less ws ps i)])) ?_ n FUEL (fun i hi => ?_) ?_ (fuel_gt (by omega)))
  · rw [less_zero]; rfl
  · have hb := h i hi
    have hlp := List.getElem?_eq_getElem (l := ps) (i := i) (by omega)
    have hgp := g_eq (xs := ps) (k := i) (by omega)
    have d := hrd (r := less ws ps i) (k := i) (by rw [less_length, hw]) hi
    rw [g_less (by omega), if_neg (by omega)] at d
    have dw := wrs_ownL (ls := [.int .i64]) (xs := less ws ps i) (sl := [cellI (less ws ps i)]) (id := 0) (i := i) (w := 1) (e := 1) (n := n) (x := g ws i - g ps i) (vs := [.int .i64 (g ws i - g ps i)]) rfl (by simp [less_length, hw]) rfl (by rw [less_length]; omega) rfl
    rw [less_succ (by omega)] at dw
    unfold proportion_Draw.loop1
    simp -implicitDefEqProofs only [Int.toNat_natCast, ownSV_len, ownSV_ptr, List.length_cons, List.length_nil, Nat.zero_add, Nat.mul_one]
    rw [Nat.mul_one] at d dw
    rw [decide_eq_true (show (i : Int) < (ps.length : Int) by omega), cond_true, guardO_pos (show 0 ≤ (i : Int) ∧ (i : Int) < (ps.length : Int) by omega)]
    have hr := rd_rowI (f := true) (k := .i64) (xs := ps) (i := i) (h := hL [cellI (less ws ps i)])
    rw [Nat.mul_one] at hr
    rw [hr, hlp]
    simp -implicitDefEqProofs only [Option.bind_some]
    rw [guardO_pos (by omega), add_hp, d]
    simp -implicitDefEqProofs only [Option.bind_some]
    rw [guardO_pos (by omega), ← hgp, i64_in _ (by omega), dw]
    simp -implicitDefEqProofs only [Option.bind_some]
    rw [i64_succ (by omega)]
    rfl
  · unfold proportion_Draw.loop1
    simp -implicitDefEqProofs only [ownSV_len]
    rw [decide_eq_false (by omega), cond_false]
theorem PDraw_ok (a : Int) (ws : List Int) (hl : ws.length < 2 ^ 63) : proportion_DrawP ws a = some (drawP ws a) := by
  unfold proportion_DrawP proportion_Draw drawP
  simp -implicitDefEqProofs only [evs, reduceIte, rdRes, rdTT, rdTy, rdLT, Res.un, TT.un, Ty.un, LT.un, Leaf.un, Leaf.plain, LT.plain, weigh_ok a ws hl]
  by_cases he : (weighOf a ws).2 = 0
  · rw [if_pos he, decide_eq_true he]
    obtain ⟨ha, h0, h64, hall, hSa, hne, h1⟩ := weighOf_ok he
    have hd : proportion_DivideP a ws = some (divParts a ws.sum ws, 0) := by rw [Divide_ok a ws hl, divideOf, if_pos he, h1]
    rw [h1]
    have hS' := isAmt_iff.1 hSa
    have ha' := isAmt_iff.1 ha
    simp -implicitDefEqProofs only [evs, reduceIte, rdRes, rdTT, rdTy, rdLT, Res.un, TT.un, Ty.un, LT.un, Leaf.un, Leaf.plain, LT.plain]
    by_cases hlt : ws.sum < a
    · rw [if_pos hlt, decide_eq_true hlt]
      simp -implicitDefEqProofs only [evs, reduceIte, rdRes, rdTT, rdTy, rdLT, Res.un, TT.un, Ty.un, LT.un, Leaf.un, Leaf.plain, LT.plain]
    · rw [if_neg hlt, decide_eq_false hlt]
      simp -implicitDefEqProofs only [evs, reduceIte, rdRes, rdTT, rdTy, rdLT, Res.un, TT.un, Ty.un, LT.un, Leaf.un, Leaf.plain, LT.plain]
      rw [hd]
      simp -implicitDefEqProofs only [evs, reduceIte, rdRes, rdTT, rdTy, rdLT, Res.un, TT.un, Ty.un, LT.un, Leaf.un, Leaf.plain, LT.plain]
      rw [hL_empty, cloneX_row (ls := [.int .i64]) (xs := ws) (w := 1) rfl (by omega) rfl (by omega) (by omega), if_neg (by omega), if_neg (by omega)]
      simp -implicitDefEqProofs only [Option.bind_some, List.nil_append, List.length_nil]
      have hb : ∀ i, i < ws.length → 0 ≤ g (divParts a ws.sum ws) i ∧ g (divParts a ws.sum ws) i ≤ g ws i ∧ g ws i ≤ 128849018880000 := fun i hi => by
        have k1 := part_bound (a := a) ha'.1 (by omega) (by omega) (fun w hw => (all_amt hall w hw).1) hi
        have k2 := all_amt hall _ (g_mem hi)
        omega
      have hloop := draw_loop (n := ws.length) (ws := ws) (ps := divParts a ws.sum ws) rfl divParts_length h64 hb
      unfold cellI at hloop
      rw [hloop]
      simp -implicitDefEqProofs only [evs, reduceIte, rdRes, rdTT, rdTy, rdLT, Res.un, TT.un, Ty.un, LT.un, Leaf.un, Leaf.plain, LT.plain]
      have hread := rdRow_own (lp := false) (ls := [.int .i64]) (xs := less ws (divParts a ws.sum ws) ws.length) (sl := [cellI (less ws (divParts a ws.sum ws) ws.length)]) (id := 0) (e := 1) (n := ws.length * 1) (c := ws.length) (t := true) rfl (by rw [less_length]; simp) rfl
      rw [less_length] at hread
      unfold cellI at hread
      unfold ownSV
      simp -implicitDefEqProofs only [List.length_cons, List.length_nil, Nat.zero_add]
      rw [hread, show (⟨(rowSV true [.int .i64] (divParts a ws.sum ws)).a, (divParts a ws.sum ws).length, (divParts a ws.sum ws).length, true⟩ : SV) = rowSV true [.int .i64] (divParts a ws.sum ws) from rfl]
      simp -implicitDefEqProofs only [evs, reduceIte, rdRes, rdTT, rdTy, rdLT, Res.un, TT.un, Ty.un, LT.un, Leaf.un, Leaf.plain, LT.plain]
  · rw [if_neg he, decide_eq_false he]
    simp -implicitDefEqProofs only [evs, reduceIte, rdRes, rdTT, rdTy, rdLT, Res.un, TT.un, Ty.un, LT.un, Leaf.un, Leaf.plain, LT.plain]
end Go.Proofs.Ytbcpdecgfdlaaaa
/- What Draw of the reference of proportion, share.with, Take, Parts and those of the reference compute. Conditions: those of each law. -/
namespace Go.Proofs.Ytbcpdecgfdlaaaa
open Go Go.Proofs.Ytbcpdecgfdlaaaa.Ev
set_option linter.unusedVariables false
set_option linter.unusedSimpArgs false
set_option maxRecDepth 100000
set_option maxHeartbeats 4000000
/-- Shares with other amounts. -/
def withL (xs : List (Int × Int)) (ns : List Int) : List (Int × Int) := (xs.zip ns).filterMap fun p => if 0 < p.2 then some (p.1.1, p.2) else none
def withTo (xs : List (Int × Int)) (ns : List Int) (i : Nat) : List (Int × Int) := ((xs.zip ns).take i).filterMap fun p => if 0 < p.2 then some (p.1.1, p.2) else none
theorem withTo_succ {xs : List (Int × Int)} {ns : List Int} {i : Nat} (h : i < xs.length) (hn : i < ns.length) : withTo xs ns (i + 1) = if 0 < g ns i then withTo xs ns i ++ [((at2 xs i).1, g ns i)] else withTo xs ns i := by
  have hz : i < (xs.zip ns).length := by rw [List.length_zip]; omega
  obtain ⟨h1, h2⟩ := List.getElem?_eq_some_iff.1 (at2_some h)
  unfold withTo
  rw [← List.take_append_getElem hz, List.filterMap_append, List.getElem_zip, h2, ← g_eq hn]
  by_cases hp : 0 < g ns i
  · simp [hp]
  · simp [hp]
theorem withTo_length {xs : List (Int × Int)} {ns : List Int} {i : Nat} : (withTo xs ns i).length ≤ i := by
  unfold withTo
  exact Nat.le_trans (List.length_filterMap_le ..) (by rw [List.length_take]; omega)
theorem with_ok (xs : List (Int × Int)) (ns : List Int) (hl : xs.length ≤ 64) (hn : ns.length = xs.length) : share_withP xs ns = some (withL xs ns) := by
  unfold share_withP share_with
  simp -implicitDefEqProofs only [evs, reduceIte, rdRes, rdTT, rdTy, rdLT, Res.un, TT.un, Ty.un, LT.un, Leaf.un, Leaf.plain, LT.plain, hL_empty]
  obtain ⟨x, h1, s, sl, o, rfl, h2⟩ := iter_upto (f := share_with.loop1 (rowSV false j2 xs) (rowSV false [.int .i64] ns)) (fun i st => ∃ s sl o, st = ((s, (i : Int)), hL sl) ∧ Acc sl j2 (withTo xs ns i) s o)
    (fun x => ∃ s sl o, x = (.ex0 s, hL sl) ∧ Acc sl j2 (withL xs ns) s o) xs.length (fun i st hi hst => by
      obtain ⟨s, sl, o, rfl, hacc⟩ := hst
      have hget := at2_some hi
      have hrow : (sl ++ [c2 (at2 xs i)])[sl.length]? = some (c2 (at2 xs i)) := by simp
      have nw := new_c2 (sl := sl) (x := at2 xs i)
      have r1 := rd_c2 hrow
      have hg1 : 0 ≤ (i : Int) ∧ (i : Int) < (xs.length : Int) := by omega
      have hg2 : 0 ≤ (i : Int) ∧ (i : Int) < (ns.length : Int) := by omega
      have hacc2 : Acc (sl ++ [c2 (at2 xs i)]) j2 (withTo xs ns i) s o := hacc.more
      have hwl := withTo_length (xs := xs) (ns := ns) (i := i)
      have hsucc := withTo_succ (xs := xs) (ns := ns) hi (by omega)
      obtain ⟨s', sl', id, k1, k2, k3, k4, k5⟩ := hacc2.append (b := 16) (w := 2) (x := ((at2 xs i).1, g ns i)) (vs := [.int .i64 (at2 xs i).1, .int .i64 (g ns i)]) rfl (by omega) (by omega) (by omega) rfl
      by_cases hp : 0 < g ns i
      · rw [if_pos hp] at hsucc
        refine ⟨((s', ((i + 1 : Nat) : Int)), hL sl'), ?_, s', sl', some id, rfl, by rw [hsucc]; exact k2⟩
        unfold share_with.loop1
        simp -implicitDefEqProofs only [Int.toNat_natCast, rowSV_len, guardO_pos hg1, guardO_pos hg2, rd_rowI, g_some (xs := ns) (show i < ns.length by omega)]
        rw [decide_eq_true hg1.2, cond_true, rds_rowF (ls := j2) (w := 2) rfl (by omega) rfl, hget]
        simp -implicitDefEqProofs only [Option.bind_some, hL_new, hL_next]
        rw [nw]
        simp -implicitDefEqProofs only [Option.bind_some, reserve0]
        rw [decide_eq_true hp]
        simp -implicitDefEqProofs only [evs, reduceIte, rdRes, rdTT, rdTy, rdLT, Res.un, TT.un, Ty.un, LT.un, Leaf.un, Leaf.plain, LT.plain]
        rw [r1.1]
        simp -implicitDefEqProofs only [evs, reduceIte, rdRes, rdTT, rdTy, rdLT, Res.un, TT.un, Ty.un, LT.un, Leaf.un, Leaf.plain, LT.plain]
        rw [k1]
        simp -implicitDefEqProofs only [evs, reduceIte, rdRes, rdTT, rdTy, rdLT, Res.un, TT.un, Ty.un, LT.un, Leaf.un, Leaf.plain, LT.plain]
        rw [i64_succ (by omega)]
      · rw [if_neg hp] at hsucc
        refine ⟨((s, ((i + 1 : Nat) : Int)), hL (sl ++ [c2 (at2 xs i)])), ?_, s, _, o, rfl, by rw [hsucc]; exact hacc2⟩
        unfold share_with.loop1
        simp -implicitDefEqProofs only [Int.toNat_natCast, rowSV_len, guardO_pos hg1, guardO_pos hg2, rd_rowI, g_some (xs := ns) (show i < ns.length by omega)]
        rw [decide_eq_true hg1.2, cond_true, rds_rowF (ls := j2) (w := 2) rfl (by omega) rfl, hget]
        simp -implicitDefEqProofs only [Option.bind_some, hL_new, hL_next]
        rw [nw]
        simp -implicitDefEqProofs only [Option.bind_some, reserve0]
        rw [decide_eq_false hp]
        simp -implicitDefEqProofs only [evs, reduceIte, rdRes, rdTT, rdTy, rdLT, Res.un, TT.un, Ty.un, LT.un, Leaf.un, Leaf.plain, LT.plain]
        rw [i64_succ (by omega)]) (fun st hst => by
      obtain ⟨s, sl, o, rfl, hacc⟩ := hst
      have : withTo xs ns xs.length = withL xs ns := by
        unfold withTo withL
        rw [List.take_of_length_le (by rw [List.length_zip]; omega)]
      rw [this] at hacc
      refine ⟨_, ?_, s, sl, o, rfl, hacc⟩
      unfold share_with.loop1
      simp -implicitDefEqProofs only [rowSV_len]
      rw [decide_eq_false (by omega), cond_false]) FUEL 0 ((⟨.nil, 0, 0, false⟩, 0), hL []) (by omega) ⟨_, [], none, rfl, Acc.nil⟩ (by have := fuel_gt (n := xs.length) (by omega); omega)
  rw [h1]
  simp -implicitDefEqProofs only [evs, reduceIte, rdRes, rdTT, rdTy, rdLT, Res.un, TT.un, Ty.un, LT.un, Leaf.un, Leaf.plain, LT.plain]
  rw [h2.read rfl]
end Go.Proofs.Ytbcpdecgfdlaaaa
/- What share.Take, share.Parts and those of the reference compute; the law ShareTakes in plain numbers. Conditions: none. -/
namespace Go.Proofs.Ytbcpdecgfdlaaaa
open Go Go.Proofs.Ytbcpdecgfdlaaaa.Ev
set_option linter.unusedVariables false
set_option linter.unusedSimpArgs false
set_option maxRecDepth 100000
set_option maxHeartbeats 4000000
theorem rdRow_j2 {lp : Bool} {h : H} {xs : List (Int × Int)} : rdRow lp h [.int .i64, .int .i64] ⟨(rowSV true [.int .i64, .int .i64] xs).a, xs.length, xs.length, true⟩ = some xs := rdRow_res rfl
theorem rdRow_i {lp : Bool} {h : H} {xs : List Int} : rdRow lp h [.int .i64] ⟨(rowSV true [.int .i64] xs).a, xs.length, xs.length, true⟩ = some xs := rdRow_res rfl
def amts (xs : List (Int × Int)) : List Int := xs.map (·.2)
def takeOf (xs : List (Int × Int)) (n : Int) : List (Int × Int) × List (Int × Int) × Int :=
  if shareCheck xs = 0 then (if n < 0 then ([], [], 2) else if sumA xs < n then ([], [], 17) else if xs.length = 0 then ([], [], 0) else (withL xs (drawP (amts xs) n).1, withL xs (drawP (amts xs) n).2.1, 0)) else ([], [], 1)
/-- Drawing off right shares. -/
theorem draw_right {xs : List (Int × Int)} {n : Int} (h : shareCheck xs = 0) (h0 : 0 ≤ n) (h1 : n ≤ sumA xs) (hne : 0 < xs.length) :
    drawP (amts xs) n = (divParts n (sumA xs) (amts xs), less (amts xs) (divParts n (sumA xs) (amts xs)) (amts xs).length, 0) ∧ (weighOf n (amts xs)) = (sumA xs, 0) := by
  obtain ⟨k1, k2, k3, k4⟩ := shareCheck_ok h
  have hall : (amts xs).all isAmt = true := List.all_eq_true.2 fun y hy => by
    obtain ⟨x, hx, rfl⟩ := List.mem_map.1 hy
    have := okS_iff.1 (k3 x hx)
    exact isAmt_iff.2 (by omega)
  have hlen : (amts xs).length = xs.length := by simp [amts]
  have hpos : 0 < sumA xs := by
    cases xs with
    | nil => simp at hne
    | cons x xs =>
      have h2 := okS_iff.1 (k3 x (by simp))
      have h3 := sumA_bound xs fun y hy => by have := okS_iff.1 (k3 y (by simp [hy])); omega
      unfold sumA at h3 ⊢
      simp only [List.map_cons, List.sum_cons]
      omega
  have hsum : (amts xs).sum = sumA xs := rfl
  have hw : weighOf n (amts xs) = (sumA xs, 0) := by
    unfold weighOf
    rw [if_pos (isAmt_iff.2 (by omega)), if_neg (by omega), if_neg (by omega), if_pos (by rw [hall, hsum]; simp only [Bool.true_and]; exact isAmt_iff.2 (by omega)), if_neg (by omega), hsum]
  refine ⟨?_, hw⟩
  unfold drawP
  rw [hw, if_pos rfl, if_neg (by omega)]
theorem STake_ok (xs : List (Int × Int)) (n : Int) (hl : xs.length < 2 ^ 63) : share_TakeP xs n = some (takeOf xs n) := by
  unfold share_TakeP share_Take takeOf
  simp -implicitDefEqProofs only [evs, reduceIte, rdRes, rdTT, rdTy, rdLT, Res.un, TT.un, Ty.un, LT.un, Leaf.un, Leaf.plain, LT.plain, rdRow_j2, rdRow_i]
  rw [SSum_ok xs hl]
  unfold shareSum
  by_cases h : shareCheck xs = 0
  · obtain ⟨k1, k2, k3, k4⟩ := shareCheck_ok h
    rw [if_pos h, if_pos h]
    simp -implicitDefEqProofs only [evs, reduceIte, rdRes, rdTT, rdTy, rdLT, Res.un, TT.un, Ty.un, LT.un, Leaf.un, Leaf.plain, LT.plain, eq_self, decide_true]
    by_cases h0 : n < 0
    · rw [decide_eq_true h0, if_pos h0]
      simp -implicitDefEqProofs only [evs, reduceIte, rdRes, rdTT, rdTy, rdLT, Res.un, TT.un, Ty.un, LT.un, Leaf.un, Leaf.plain, LT.plain, rdRow_j2, rdRow_i]
    · rw [decide_eq_false h0, if_neg h0]
      simp -implicitDefEqProofs only [evs, reduceIte, rdRes, rdTT, rdTy, rdLT, Res.un, TT.un, Ty.un, LT.un, Leaf.un, Leaf.plain, LT.plain, rdRow_j2, rdRow_i]
      by_cases h1 : sumA xs < n
      · rw [decide_eq_true h1, if_pos h1]
        simp -implicitDefEqProofs only [evs, reduceIte, rdRes, rdTT, rdTy, rdLT, Res.un, TT.un, Ty.un, LT.un, Leaf.un, Leaf.plain, LT.plain, rdRow_j2, rdRow_i]
      · rw [decide_eq_false h1, if_neg h1]
        simp -implicitDefEqProofs only [evs, reduceIte, rdRes, rdTT, rdTy, rdLT, Res.un, TT.un, Ty.un, LT.un, Leaf.un, Leaf.plain, LT.plain, rdRow_j2, rdRow_i]
        by_cases h2 : xs.length = 0
        · rw [decide_eq_true (show (xs.length : Int) = 0 by omega), if_pos h2]
          simp -implicitDefEqProofs only [evs, reduceIte, rdRes, rdTT, rdTy, rdLT, Res.un, TT.un, Ty.un, LT.un, Leaf.un, Leaf.plain, LT.plain, rdRow_j2, rdRow_i]
        · rw [decide_eq_false (show ¬ (xs.length : Int) = 0 by omega), if_neg h2]
          simp -implicitDefEqProofs only [evs, reduceIte, rdRes, rdTT, rdTy, rdLT, Res.un, TT.un, Ty.un, LT.un, Leaf.un, Leaf.plain, LT.plain, rdRow_j2, rdRow_i]
          rw [amounts23_ok xs (by omega) (okS_bound k3)]
          simp -implicitDefEqProofs only [evs, reduceIte, rdRes, rdTT, rdTy, rdLT, Res.un, TT.un, Ty.un, LT.un, Leaf.un, Leaf.plain, LT.plain, rdRow_j2, rdRow_i]
          rw [show List.map (fun x : Int × Int => x.2) xs = amts xs from rfl, PDraw_ok n (amts xs) (by unfold amts; rw [List.length_map]; omega)]
          simp -implicitDefEqProofs only [evs, reduceIte, rdRes, rdTT, rdTy, rdLT, Res.un, TT.un, Ty.un, LT.un, Leaf.un, Leaf.plain, LT.plain, rdRow_j2, rdRow_i]
          obtain ⟨d1, _⟩ := draw_right (n := n) h (by omega) (by omega) (show 0 < xs.length by omega)
          have e1 : (drawP (amts xs) n).1.length = xs.length := by rw [d1]; simp only [divParts_length]; simp [amts]
          have e2 : (drawP (amts xs) n).2.1.length = xs.length := by rw [d1]; simp only [less_length]; simp [amts]
          rw [with_ok xs _ (by omega) e1]
          simp -implicitDefEqProofs only [evs, reduceIte, rdRes, rdTT, rdTy, rdLT, Res.un, TT.un, Ty.un, LT.un, Leaf.un, Leaf.plain, LT.plain, rdRow_j2, rdRow_i]
          rw [with_ok xs _ (by omega) e2]
          simp -implicitDefEqProofs only [evs, reduceIte, rdRes, rdTT, rdTy, rdLT, Res.un, TT.un, Ty.un, LT.un, Leaf.un, Leaf.plain, LT.plain, rdRow_j2, rdRow_i]
  · simp only [if_neg h]
    simp -implicitDefEqProofs only [evs, reduceIte, rdRes, rdTT, rdTy, rdLT, Res.un, TT.un, Ty.un, LT.un, Leaf.un, Leaf.plain, LT.plain, rdRow_j2, rdRow_i]
    rw [decide_eq_false (show ¬ (1 : Int) = 0 by omega)]
    simp -implicitDefEqProofs only [evs, reduceIte, rdRes, rdTT, rdTy, rdLT, Res.un, TT.un, Ty.un, LT.un, Leaf.un, Leaf.plain, LT.plain, rdRow_j2, rdRow_i]
theorem same23_ok (a b : List (Int × Int)) (hl : a.length < 2 ^ 63) : spileref22_SameSharesP a b = some (decide (a = b)) := by
  have dec2 : ∀ (x y : Int × Int), (decide (x.1 = y.1) && decide (x.2 = y.2)) = decide (x = y) := fun x y => by
    obtain ⟨x0, x1⟩ := x
    obtain ⟨y0, y1⟩ := y
    simp [Prod.mk.injEq, Bool.decide_and]
  unfold spileref22_SameSharesP spileref22_SameShares
  simp -implicitDefEqProofs only [rowSV_len]
  by_cases hab : a.length = b.length
  · rw [decide_eq_true (show (a.length : Int) = (b.length : Int) by omega)]
    simp -implicitDefEqProofs only [evs, reduceIte, rdRes, rdTT, rdTy, rdLT, Res.un, TT.un, Ty.un, LT.un, Leaf.un, Leaf.plain, LT.plain, rdRow_j2, rdRow_i]
    rw [iter_same a b hab hl (fun i x y hx hy hi => by
      unfold spileref22_SameShares.loop1
      simp -implicitDefEqProofs only [rowSV_len, Int.toNat_natCast, reserve0]
      rw [decide_eq_true (by omega), cond_true, guardO_pos (by omega), rds_rowF (ls := j2) (w := 2) rfl (by omega) rfl, hx, rds_rowF (ls := j2) (w := 2) rfl (by omega) rfl, hy]
      simp -implicitDefEqProofs only [Option.bind_some, dec2]
      rw [guardO_pos (by omega), i64_succ (by omega)]
      cases decide (x = y) <;> rfl) (by
      unfold spileref22_SameShares.loop1
      simp -implicitDefEqProofs only [rowSV_len]
      rw [decide_eq_false (by omega), cond_false])]
    by_cases he : a = b
    · rw [if_pos he, decide_eq_true he]; rfl
    · rw [if_neg he, decide_eq_false he]; rfl
  · rw [decide_eq_false (show ¬ (a.length : Int) = (b.length : Int) by omega), decide_eq_false (show ¬ a = b from fun e => hab (by rw [e]))]
    simp -implicitDefEqProofs only [evs, reduceIte, rdRes, rdTT, rdTy, rdLT, Res.un, TT.un, Ty.un, LT.un, Leaf.un, Leaf.plain, LT.plain, rdRow_j2, rdRow_i]
theorem FewShares_ok (xs : List (Int × Int)) : ∃ b, spileref22_FewSharesP xs = some b ∧ (b = true → xs.length ≤ 37) := by
  unfold spileref22_FewSharesP spileref22_FewShares
  simp -implicitDefEqProofs only [evs, reduceIte, rdRes, rdTT, rdTy, rdLT, Res.un, TT.un, Ty.un, LT.un, Leaf.un, Leaf.plain, LT.plain, rdRow_j2, rdRow_i]
  by_cases h1 : (xs.length : Int) ≤ 12
  · rw [decide_eq_true h1]
    simp -implicitDefEqProofs only [evs, reduceIte, rdRes, rdTT, rdTy, rdLT, Res.un, TT.un, Ty.un, LT.un, Leaf.un, Leaf.plain, LT.plain, rdRow_j2, rdRow_i]
    exact ⟨_, rfl, fun _ => by omega⟩
  · rw [decide_eq_false h1]
    simp -implicitDefEqProofs only [evs, reduceIte, rdRes, rdTT, rdTy, rdLT, Res.un, TT.un, Ty.un, LT.un, Leaf.un, Leaf.plain, LT.plain, rdRow_j2, rdRow_i]
    by_cases h2 : (32 : Int) < (xs.length : Int)
    · rw [decide_eq_true h2]
      simp -implicitDefEqProofs only [evs, reduceIte, rdRes, rdTT, rdTy, rdLT, Res.un, TT.un, Ty.un, LT.un, Leaf.un, Leaf.plain, LT.plain, rdRow_j2, rdRow_i]
      exact ⟨_, rfl, fun h => by have := of_decide_eq_true h; omega⟩
    · rw [decide_eq_false h2]
      simp -implicitDefEqProofs only [evs, reduceIte, rdRes, rdTT, rdTy, rdLT, Res.un, TT.un, Ty.un, LT.un, Leaf.un, Leaf.plain, LT.plain, rdRow_j2, rdRow_i]
      exact ⟨_, rfl, fun h => by simp at h⟩
theorem withL_length {xs : List (Int × Int)} {ns : List Int} : (withL xs ns).length ≤ xs.length := by
  unfold withL
  exact Nat.le_trans (List.length_filterMap_le ..) (by rw [List.length_zip]; omega)
theorem awake23 : spilelaw23_awakeP = some true := by kernel_rfl
end Go.Proofs.Ytbcpdecgfdlaaaa
/- share.union joins lists of shares; share.Join and that of the reference. Conditions: those of each law. -/
namespace Go.Proofs.Ytbcpdecgfdlaaaa
open Go Go.Proofs.Ytbcpdecgfdlaaaa.Ev
set_option linter.unusedVariables false
set_option linter.unusedSimpArgs false
set_option maxRecDepth 100000
set_option maxHeartbeats 4000000
/-- A list's slice behind its first places. -/
def dropSV (xs : List (Int × Int)) (i : Nat) : SV := ⟨(rowSV false j2 xs).a.add (i * 2), xs.length - i, xs.length - i, true⟩
theorem dropSV_len {xs : List (Int × Int)} {i : Nat} : (dropSV xs i).len = xs.length - i := by unfold dropSV; exact rfl
theorem dropSV_cap {xs : List (Int × Int)} {i : Nat} : (dropSV xs i).cap = xs.length - i := by unfold dropSV; exact rfl
theorem dropSV_tail {xs : List (Int × Int)} {i : Nat} : (dropSV xs i).tail = true := by unfold dropSV; exact rfl
theorem dropSV_rd {xs : List (Int × Int)} {i : Nat} {h : H} (hi : i < xs.length) : rdT (.leaf (.int .i64)) h (((dropSV xs i).a.add 0).add 0) = some (at2 xs i).1 := by
  have e : ((dropSV xs i).a.add 0).add 0 = ((rowSV false j2 xs).a.add (i * 2)).add 0 := by unfold dropSV; simp only [add_add, Nat.add_zero]
  rw [e, (rd_at2 hi).1]
theorem dropSV_nn {xs : List (Int × Int)} {i : Nat} (hi : i < xs.length) : V.nn ((dropSV xs i).a.add 0) = true := by
  have e : (dropSV xs i).a.add 0 = (rowSV false j2 xs).a.add (i * 2) := by unfold dropSV; simp only [add_add, Nat.add_zero]
  rw [e, nn_at2 hi]
theorem dropSV_next {xs : List (Int × Int)} {i : Nat} : V.slice (V.add (dropSV xs i).a (Int.toNat 1 * 2)) (Int.toNat ((xs.length - i : Nat) : Int) - Int.toNat 1) (xs.length - i - Int.toNat 1) true = .slice (dropSV xs (i + 1)).a (dropSV xs (i + 1)).len (dropSV xs (i + 1)).cap (dropSV xs (i + 1)).tail := by
  have e : (dropSV xs i).a.add (Int.toNat 1 * 2) = (dropSV xs (i + 1)).a := by
    unfold dropSV
    simp only [add_add]
    congr 1
    show i * 2 + 1 * 2 = (i + 1) * 2
    omega
  rw [e, dropSV_len, dropSV_cap, dropSV_tail, Int.toNat_natCast, show Int.toNat 1 = 1 from rfl, show xs.length - i - 1 = xs.length - (i + 1) by omega]
theorem yield_call {N : Nat} {f : TT [.leaf (.int .i64), .leaf (.int .i64)] → H → Option H} {a b : Int} {h : H} {R : Type} {k : V → H → Option R} :
    callV (withY Table.nil (mkY [.leaf (.int .i64), .leaf (.int .i64)] N f)).dy (.yld N) [.int .i64 a, .int .i64 b] h k = (f (a, b) h).bind fun h' => k (.bool true) h' := by
  have : Nat.beq N N = true := Nat.beq_refl N
  simp [callV, withY, mkY, this, TT.pack, Ty.pack, Leaf.pack]
theorem pack_true : Res.pack (.one (.leaf .bool)) (.bool true) = some true := rfl
/-- What holds between the rounds. -/
structure UInv (xs ys : List (Int × Int)) (es : List (Int × Int)) (N i k : Nat) (acc : List (Int × Int)) (sl : List Slot) : Prop where
  s1 : sl[1]? = some (slS (dropSV xs i))
  s2 : sl[2]? = some (slS (dropSV ys k))
  s3 : sl[3]? = some (.imap .i64 .i64 es)
  s4 : sl[4]? = some (.own [.map (some 3)] 1)
  sN : sl[N]? = some (.loop .ready)
  out : ∃ s o, sl[0]? = some (slS s) ∧ Acc sl j2 acc s o ∧ ∀ id, o = some id → N < id
abbrev gF (es : List (Int × Int)) (p : Int × Int) : Int × Int := (p.1, (getM p.1 es).getD 0)
theorem ujoin_step {xs ys es acc : List (Int × Int)} {N i k : Nat} {sl : List Slot} {h h3 : H} (hn : h.next = 0) (hN : h3.next = N) (hN5 : 4 < N) (inv : UInv xs ys es N i k acc sl) (hi : i ≤ xs.length) (hk : k ≤ ys.length) (hik : i < xs.length ∨ k < ys.length) (hl : xs.length + ys.length ≤ 4096) (ha : acc.length ≤ i + k) :
    ∃ (acc' : List (Int × Int)) (sl' : List Slot) (i' k' : Nat), share_joined_1.loop1 (withY Table.nil (mkY [.leaf (.int .i64), .leaf (.int .i64)] N (share_union.round1 h h3))) (.yld N) (.hp 1 1 0) (.hp 2 1 0) (.hp 4 1 0) ((), hL sl) = some (.more ((), hL sl')) ∧ UInv xs ys es N i' k' acc' sl' ∧ acc'.length ≤ i' + k' ∧ i' ≤ xs.length ∧ k' ≤ ys.length ∧ i + k < i' + k' ∧
      acc' ++ (joinL (xs.drop i') (ys.drop k')).map (gF es) = acc ++ (joinL (xs.drop i) (ys.drop k)).map (gF es) := by
  obtain ⟨i1, i2, i3, i4, iN, s, o, h0, hacc, ho⟩ := inv
  -- what a round does behind a choice
  have fin : ∀ (sl1 : List Slot) (i' k' : Nat) (f : Int), sl1.length = sl.length → (∀ j, j ≠ 1 → j ≠ 2 → sl1[j]? = sl[j]?) → sl1[1]? = some (slS (dropSV xs i')) → sl1[2]? = some (slS (dropSV ys k')) →
      ∃ sl', ((rdT (.leaf .map) (hL sl1) (.hp 4 1 0)).bind fun x47 => (match (x47 : Option Nat) with
        | none => none
        | some r49 => ((H.imap (hL sl1) r49 .i64 .i64).bind fun es48 => (callV (withY Table.nil (mkY [.leaf (.int .i64), .leaf (.int .i64)] N (share_union.round1 h h3))).dy (.yld N) [.int .i64 f, .int .i64 ((getM f es48).getD 0)] (hL sl1) fun v50 h51 => (Res.pack (.one (.leaf .bool)) v50).bind fun r52 =>
          (bif (!r52) then (some (.done (.ret (), h51))) else (some (.more ((), h51))) : Option (Stp (Unit × H) (Flow Unit Unit × H))))))) = some (.more ((), hL sl')) ∧ UInv xs ys es N i' k' (acc ++ [(f, (getM f es).getD 0)]) sl' := fun sl1 i' k' f hlen hsame e1 e2 => by
    have hacc1 : Acc sl1 j2 acc s o := hacc.frame fun id hid => by
      have := ho id hid
      rw [hsame id (by omega) (by omega)]
    obtain ⟨sl', s', id, r1, r2, r3, r4, r5, r6, r7⟩ := round_ok (x := (f, (getM f es).getD 0)) hn hN (by rw [hsame 0 (by omega) (by omega), h0]) (by rw [hsame N (by omega) (by omega), iN]) hacc1 ho (by omega) (by omega)
    refine ⟨sl', ?_, ⟨by rw [r7 1 (by omega) (by omega), e1], by rw [r7 2 (by omega) (by omega), e2], by rw [r7 3 (by omega) (by omega), hsame 3 (by omega) (by omega), i3], by rw [r7 4 (by omega) (by omega), hsame 4 (by omega) (by omega), i4], r3, s', some id, r2, r4, fun id' h' => by cases h'; exact r5⟩⟩
    rw [rd_map (by rw [hsame 4 (by omega) (by omega), i4])]
    simp -implicitDefEqProofs only [Option.bind_some]
    rw [imap_hL (by rw [hsame 3 (by omega) (by omega), i3])]
    simp -implicitDefEqProofs only [Option.bind_some]
    rw [yield_call, r1]
    simp -implicitDefEqProofs only [Option.bind_some, pack_true, evs, reduceIte, rdRes, rdTT, rdTy, rdLT, Res.un, TT.un, Ty.un, LT.un, Leaf.un, Leaf.plain, LT.plain]
  have rd1 := rd_sl i1
  have rd2 := rd_sl i2
  have l1 := (List.getElem?_eq_some_iff.1 i1).1
  have l2 := (List.getElem?_eq_some_iff.1 i2).1
  have first : (i < xs.length ∧ (k = ys.length ∨ k < ys.length ∧ (at2 xs i).1 < (at2 ys k).1)) ∨ (k < ys.length ∧ (i = xs.length ∨ i < xs.length ∧ (at2 ys k).1 < (at2 xs i).1)) ∨ (i < xs.length ∧ k < ys.length ∧ (at2 xs i).1 = (at2 ys k).1) := by
    rcases Nat.lt_or_ge i xs.length with h1 | h1
    · rcases Nat.lt_or_ge k ys.length with h2 | h2
      · rcases Int.lt_trichotomy (at2 xs i).1 (at2 ys k).1 with h3 | h3 | h3
        · exact .inl ⟨h1, .inr ⟨h2, h3⟩⟩
        · exact .inr (.inr ⟨h1, h2, h3⟩)
        · exact .inr (.inl ⟨h2, .inr ⟨h1, h3⟩⟩)
      · exact .inl ⟨h1, .inl (by omega)⟩
    · exact .inr (.inl ⟨by omega, .inl (by omega)⟩)
  have gx : i < xs.length → (0 : Int) ≤ 0 ∧ (0 : Int) < ((xs.length - i : Nat) : Int) := fun h => by omega
  have gy : k < ys.length → (0 : Int) ≤ 0 ∧ (0 : Int) < ((ys.length - k : Nat) : Int) := fun h => by omega
  have qx : i < xs.length → (0 : Int) ≤ 1 ∧ (1 : Int) ≤ ((xs.length - i : Nat) : Int) ∧ ((xs.length - i : Nat) : Int) ≤ ((xs.length - i : Nat) : Int) := fun h => by omega
  have qy : k < ys.length → (0 : Int) ≤ 1 ∧ (1 : Int) ≤ ((ys.length - k : Nat) : Int) ∧ ((ys.length - k : Nat) : Int) ≤ ((ys.length - k : Nat) : Int) := fun h => by omega
  have px : i < xs.length → decide ((0 : Int) < ((xs.length - i : Nat) : Int)) = true := fun h => decide_eq_true (by omega)
  have py : k < ys.length → decide ((0 : Int) < ((ys.length - k : Nat) : Int)) = true := fun h => decide_eq_true (by omega)
  have zx : i < xs.length → decide (((xs.length - i : Nat) : Int) = 0) = false := fun h => decide_eq_false (by omega)
  have zy : k < ys.length → decide (((ys.length - k : Nat) : Int) = 0) = false := fun h => decide_eq_false (by omega)
  rcases first with ⟨h1, h2⟩ | ⟨h1, h2⟩ | ⟨h1, h2, h3⟩
  · obtain ⟨sl', f1, f2⟩ := fin (sl.set 1 (slS (dropSV xs (i + 1)))) (i + 1) k (at2 xs i).1 (by simp) (fun j hj _ => by rw [List.getElem?_set_ne (Ne.symm hj)]) (by rw [List.getElem?_set_self l1]) (by rw [List.getElem?_set_ne (by omega), i2])
    refine ⟨_, sl', i + 1, k, ?_, f2, by simp; omega, by omega, hk, by omega, ?_⟩
    · unfold share_joined_1.loop1
      rcases h2 with h2 | ⟨h2, h3⟩
      · simp -implicitDefEqProofs only [evs, reduceIte, rdRes, rdTT, rdTy, rdLT, Res.un, TT.un, Ty.un, LT.un, Leaf.un, Leaf.plain, LT.plain, rd1, rd2, dropSV_len, dropSV_cap, dropSV_tail, px h1, decide_eq_true (show ((ys.length - k : Nat) : Int) = 0 by omega), guardO_pos (gx h1), guardO_pos (dropSV_nn h1), dropSV_rd h1, guardO_pos (qx h1)]
        rw [dropSV_next, wrs_one i1]
        simp -implicitDefEqProofs only [evs, reduceIte, rdRes, rdTT, rdTy, rdLT, Res.un, TT.un, Ty.un, LT.un, Leaf.un, Leaf.plain, LT.plain]
        exact f1
      · simp -implicitDefEqProofs only [evs, reduceIte, rdRes, rdTT, rdTy, rdLT, Res.un, TT.un, Ty.un, LT.un, Leaf.un, Leaf.plain, LT.plain, rd1, rd2, dropSV_len, dropSV_cap, dropSV_tail, px h1, zy h2, guardO_pos (gx h1), guardO_pos (gy h2), guardO_pos (dropSV_nn h1), guardO_pos (dropSV_nn h2), dropSV_rd h1, dropSV_rd h2, guardO_pos (qx h1), decide_eq_true h3]
        rw [dropSV_next, wrs_one i1]
        simp -implicitDefEqProofs only [evs, reduceIte, rdRes, rdTT, rdTy, rdLT, Res.un, TT.un, Ty.un, LT.un, Leaf.un, Leaf.plain, LT.plain]
        exact f1
    · rw [drop_at2 h1, List.append_assoc]
      rcases h2 with rfl | ⟨h2, h3⟩
      · simp [joinL_nil]
      · rw [drop_at2 h2, joinL_lt h3]; rfl
  · obtain ⟨sl', f1, f2⟩ := fin (sl.set 2 (slS (dropSV ys (k + 1)))) i (k + 1) (at2 ys k).1 (by simp) (fun j _ hj => by rw [List.getElem?_set_ne (Ne.symm hj)]) (by rw [List.getElem?_set_ne (by omega), i1]) (by rw [List.getElem?_set_self l2])
    refine ⟨_, sl', i, k + 1, ?_, f2, by simp; omega, hi, by omega, by omega, ?_⟩
    · unfold share_joined_1.loop1
      rcases h2 with h2 | ⟨h2, h3⟩
      · simp -implicitDefEqProofs only [evs, reduceIte, rdRes, rdTT, rdTy, rdLT, Res.un, TT.un, Ty.un, LT.un, Leaf.un, Leaf.plain, LT.plain, rd1, rd2, dropSV_len, dropSV_cap, dropSV_tail, py h1, zy h1, decide_eq_false (show ¬ (0 : Int) < ((xs.length - i : Nat) : Int) by omega), decide_eq_true (show ((xs.length - i : Nat) : Int) = 0 by omega), guardO_pos (gy h1), guardO_pos (dropSV_nn h1), dropSV_rd h1, guardO_pos (qy h1)]
        rw [dropSV_next, wrs_one i2]
        simp -implicitDefEqProofs only [evs, reduceIte, rdRes, rdTT, rdTy, rdLT, Res.un, TT.un, Ty.un, LT.un, Leaf.un, Leaf.plain, LT.plain]
        exact f1
      · simp -implicitDefEqProofs only [evs, reduceIte, rdRes, rdTT, rdTy, rdLT, Res.un, TT.un, Ty.un, LT.un, Leaf.un, Leaf.plain, LT.plain, rd1, rd2, dropSV_len, dropSV_cap, dropSV_tail, px h2, zx h2, zy h1, guardO_pos (gx h2), guardO_pos (gy h1), guardO_pos (dropSV_nn h1), guardO_pos (dropSV_nn h2), dropSV_rd h1, dropSV_rd h2, guardO_pos (qy h1), decide_eq_true h3, decide_eq_false (show ¬ (at2 xs i).1 < (at2 ys k).1 by omega)]
        rw [dropSV_next, wrs_one i2]
        simp -implicitDefEqProofs only [evs, reduceIte, rdRes, rdTT, rdTy, rdLT, Res.un, TT.un, Ty.un, LT.un, Leaf.un, Leaf.plain, LT.plain]
        exact f1
    · rw [drop_at2 h1, List.append_assoc]
      rcases h2 with rfl | ⟨h2, h3⟩
      · simp [nil_joinL]
      · rw [drop_at2 h2, joinL_gt h3]; rfl
  · obtain ⟨sl', f1, f2⟩ := fin ((sl.set 1 (slS (dropSV xs (i + 1)))).set 2 (slS (dropSV ys (k + 1)))) (i + 1) (k + 1) (at2 xs i).1 (by simp) (fun j hj1 hj => by rw [List.getElem?_set_ne (Ne.symm hj), List.getElem?_set_ne (Ne.symm hj1)]) (by rw [List.getElem?_set_ne (by omega), List.getElem?_set_self l1]) (by rw [List.getElem?_set_self (by simpa using l2)])
    refine ⟨_, sl', i + 1, k + 1, ?_, f2, by simp; omega, by omega, by omega, by omega, ?_⟩
    · have i2' : (sl.set 1 (slS (dropSV xs (i + 1))))[2]? = some (slS (dropSV ys k)) := by rw [List.getElem?_set_ne (by omega), i2]
      unfold share_joined_1.loop1
      simp -implicitDefEqProofs only [evs, reduceIte, rdRes, rdTT, rdTy, rdLT, Res.un, TT.un, Ty.un, LT.un, Leaf.un, Leaf.plain, LT.plain, rd1, rd2, dropSV_len, dropSV_cap, dropSV_tail, px h1, zx h1, zy h2, guardO_pos (gx h1), guardO_pos (gy h2), guardO_pos (dropSV_nn h1), guardO_pos (dropSV_nn h2), dropSV_rd h1, dropSV_rd h2, guardO_pos (qx h1), guardO_pos (qy h2), decide_eq_false (show ¬ (at2 xs i).1 < (at2 ys k).1 by omega), decide_eq_false (show ¬ (at2 ys k).1 < (at2 xs i).1 by omega)]
      rw [dropSV_next, dropSV_next, wrs_one i1]
      simp -implicitDefEqProofs only [evs, reduceIte, rdRes, rdTT, rdTy, rdLT, Res.un, TT.un, Ty.un, LT.un, Leaf.un, Leaf.plain, LT.plain]
      rw [wrs_one i2']
      simp -implicitDefEqProofs only [evs, reduceIte, rdRes, rdTT, rdTy, rdLT, Res.un, TT.un, Ty.un, LT.un, Leaf.un, Leaf.plain, LT.plain]
      rw [guardO_pos (by rfl)]
      simp -implicitDefEqProofs only [evs, reduceIte, rdRes, rdTT, rdTy, rdLT, Res.un, TT.un, Ty.un, LT.un, Leaf.un, Leaf.plain, LT.plain]
      exact f1
    · rw [drop_at2 h1, drop_at2 h2, joinL_eq h3, List.append_assoc]; rfl
theorem ujoin_call {Y : Entry} {N a b c : Nat} {h : H} : callIt (share_union.tb).dy Y (.func 88 [.hp a 1 0, .hp b 1 0, .hp c 1 0]) [.yld N] h = (share_joined_1 (withY Table.nil Y) (.yld N) (.hp a 1 0) (.hp b 1 0) (.hp c 1 0) h).bind fun p => some p.2 := by
  have : (share_union.tb).dy.it 88 Y = share_joined_1.it Y := rfl
  simp only [callIt, this, share_joined_1.it, mkX]
  simp [TT.pack, Ty.pack, Leaf.pack]
theorem union_ok (xs ys : List (Int × Int)) (hx : ∀ x ∈ xs, 0 ≤ x.2 ∧ x.2 ≤ 1000000000000000) (hy : ∀ x ∈ ys, 0 ≤ x.2 ∧ x.2 ≤ 1000000000000000) (hl : xs.length + ys.length ≤ 4096) (sx : SortedF xs) (sy : SortedF ys) : share_unionP xs ys = some (joinL xs ys) := by
  obtain ⟨sl, k1, k2, k3, k4, k5, k6, k7⟩ := joined_ok (sl := [slS ⟨.nil, 0, 0, false⟩]) xs ys hx hy hl
  simp only [List.length_cons, List.length_nil, Nat.zero_add, Nat.reduceAdd] at k1 k2 k3 k4 k5 k6 k7
  unfold share_unionP share_union
  simp -implicitDefEqProofs only [evs, reduceIte, rdRes, rdTT, rdTy, rdLT, Res.un, TT.un, Ty.un, LT.un, Leaf.un, Leaf.plain, LT.plain, hL_empty, hL_new, hL_next, List.nil_append]
  rw [k1]
  simp -implicitDefEqProofs only [evs, reduceIte, rdRes, rdTT, rdTy, rdLT, Res.un, TT.un, Ty.un, LT.un, Leaf.un, Leaf.plain, LT.plain, hL_newS, hL_next]
  rw [ujoin_call]
  have hg : ∀ i, i < sl.length → (sl ++ [Slot.loop .ready])[i]? = sl[i]? := fun i hi => by rw [List.getElem?_append_left hi]
  have inv0 : UInv xs ys (sumsM (xs ++ ys)) sl.length 0 0 [] (sl ++ [Slot.loop .ready]) :=
    ⟨by rw [hg 1 (by omega), k3]; rfl, by rw [hg 2 (by omega), k4]; rfl, by rw [hg 3 (by omega), k5], by rw [hg 4 (by omega), k6], by simp, ⟨⟨.nil, 0, 0, false⟩, none, by rw [hg 0 (by omega), k7 0 (by omega)]; rfl, Acc.nil, fun _ h => by cases h⟩⟩
  unfold share_joined_1
  obtain ⟨x, h1, sl', rfl, h2⟩ := iter_inv (f := share_joined_1.loop1 (withY Table.nil (mkY [.leaf (.int .i64), .leaf (.int .i64)] sl.length (share_union.round1 (hL []) (hL sl)))) (.yld sl.length) (.hp 1 1 0) (.hp 2 1 0) (.hp 4 1 0))
    (Inv := fun st => ∃ (acc : List (Int × Int)) (sl' : List Slot) (i k : Nat), st = ((), hL sl') ∧ UInv xs ys (sumsM (xs ++ ys)) sl.length i k acc sl' ∧ acc.length ≤ i + k ∧ i ≤ xs.length ∧ k ≤ ys.length ∧ acc ++ (joinL (xs.drop i) (ys.drop k)).map (gF (sumsM (xs ++ ys))) = (joinL xs ys).map (gF (sumsM (xs ++ ys))))
    (Post := fun x => ∃ sl', x = (.ex0 (), hL sl') ∧ UInv xs ys (sumsM (xs ++ ys)) sl.length xs.length ys.length ((joinL xs ys).map (gF (sumsM (xs ++ ys)))) sl') (fun st => ((rdT (.leaf .slice) st.2 (.hp 1 1 0)).map (·.len)).getD 0 + ((rdT (.leaf .slice) st.2 (.hp 2 1 0)).map (·.len)).getD 0) (fun st hst => by
      obtain ⟨acc, sl', i, k, rfl, inv, ha, hi, hk, he⟩ := hst
      by_cases hik : i < xs.length ∨ k < ys.length
      · obtain ⟨acc', sl2, i', k', e1, e2, e3, e4, e5, e6, e7⟩ := ujoin_step (N := sl.length) (h := hL []) (h3 := hL sl) rfl rfl (by omega) inv hi hk hik hl ha
        refine .inl ⟨_, e1, ⟨acc', sl2, i', k', rfl, e2, e3, e4, e5, by rw [e7, he]⟩, ?_⟩
        simp only [rd_sl inv.s1, rd_sl inv.s2, rd_sl e2.s1, rd_sl e2.s2, Option.map_some, Option.getD_some, dropSV_len]
        omega
      · refine .inr ⟨(.ex0 (), hL sl'), ?_, sl', rfl, ?_⟩
        · unfold share_joined_1.loop1
          simp -implicitDefEqProofs only [evs, reduceIte, rdRes, rdTT, rdTy, rdLT, Res.un, TT.un, Ty.un, LT.un, Leaf.un, Leaf.plain, LT.plain, rd_sl inv.s1, rd_sl inv.s2, dropSV_len, decide_eq_false (show ¬ (0 : Int) < ((xs.length - i : Nat) : Int) by omega), decide_eq_false (show ¬ (0 : Int) < ((ys.length - k : Nat) : Int) by omega)]
        · rw [List.drop_eq_nil_of_le (show xs.length ≤ i by omega), List.drop_eq_nil_of_le (show ys.length ≤ k by omega), nil_joinL, List.map_nil, List.append_nil] at he
          obtain rfl : i = xs.length := by omega
          obtain rfl : k = ys.length := by omega
          rw [← he]; exact inv) FUEL ((), hL (sl ++ [Slot.loop .ready])) ⟨[], _, 0, 0, rfl, inv0, by simp, by omega, by omega, by simp⟩ (by
      simp only [rd_sl inv0.s1, rd_sl inv0.s2, Option.map_some, Option.getD_some, dropSV_len]
      have := fuel_gt (n := xs.length + ys.length) (by omega); omega)
  rw [h1]
  obtain ⟨i1, i2, i3, i4, iN, s, o, h0, hacc, ho⟩ := h2
  simp -implicitDefEqProofs only [evs, reduceIte, rdRes, rdTT, rdTy, rdLT, Res.un, TT.un, Ty.un, LT.un, Leaf.un, Leaf.plain, LT.plain]
  unfold H.endL
  rw [hL_m, iN]
  simp only [Option.getD_some]
  have hNl := (List.getElem?_eq_some_iff.1 iN).1
  rw [hL_put hNl]
  simp -implicitDefEqProofs only [evs, reduceIte, rdRes, rdTT, rdTy, rdLT, Res.un, TT.un, Ty.un, LT.un, Leaf.un, Leaf.plain, LT.plain]
  rw [rd_sl (s := s) (by rw [List.length_nil, List.getElem?_set_ne (by omega), h0])]
  simp -implicitDefEqProofs only [evs, reduceIte, rdRes, rdTT, rdTy, rdLT, Res.un, TT.un, Ty.un, LT.un, Leaf.un, Leaf.plain, LT.plain]
  have hacc' : Acc (sl'.set sl.length (.loop .exhausted)) j2 ((joinL xs ys).map (gF (sumsM (xs ++ ys)))) s o := hacc.frame fun id hid => by
    have := ho id hid
    rw [List.getElem?_set_ne (by omega)]
  rw [hacc'.read rfl]
  have e : (joinL xs ys).map (gF (sumsM (xs ++ ys))) = joinL xs ys := by
    have := joinL_map xs ys sx sy
    rw [List.map_map] at this
    rw [show gF (sumsM (xs ++ ys)) = ((fun f => (f, amtOf f xs + amtOf f ys)) ∘ fun x : Int × Int => x.1) from by
      funext p
      simp only [gF, Function.comp, sumsM_get, amtOf_append], this]
  rw [e]
end Go.Proofs.Ytbcpdecgfdlaaaa
/- share.Join and that of the reference; the law ShareJoins in plain numbers. Conditions: none. -/
namespace Go.Proofs.Ytbcpdecgfdlaaaa
open Go Go.Proofs.Ytbcpdecgfdlaaaa.Ev
set_option linter.unusedVariables false
set_option linter.unusedSimpArgs false
set_option maxRecDepth 100000
set_option maxHeartbeats 4000000
/-- Right shares are in order. -/
theorem shareCheck_sorted {xs : List (Int × Int)} (h : shareCheck xs = 0) : SortedF xs := by
  obtain ⟨_, h2, _, _⟩ := shareCheck_ok h
  have step : ∀ i, i + 1 < xs.length → (at2 xs i).1 < (at2 xs (i + 1)).1 := fun i hi => by
    have h3 := h2 (i + 1) hi
    have h4 := sfault_ok h3
    unfold sfault at h3
    rw [if_pos h4] at h3
    by_cases h5 : 0 < i + 1 ∧ (at2 xs (i + 1)).1 ≤ (at2 xs (i + 1 - 1)).1
    · rw [if_pos h5] at h3; cases h3
    · rw [Nat.add_sub_cancel] at h5
      have : ¬ (at2 xs (i + 1)).1 ≤ (at2 xs i).1 := fun h6 => h5 ⟨by omega, h6⟩
      omega
  have all : ∀ d i, i + d + 1 < xs.length → (at2 xs i).1 < (at2 xs (i + d + 1)).1 := fun d => by
    induction d with
    | zero => exact fun i hi => step i hi
    | succ d ih =>
      intro i hi
      have h3 := ih i (by omega)
      have h4 := step (i + d + 1) hi
      rw [show i + (d + 1) + 1 = i + d + 1 + 1 by omega]
      omega
  refine List.pairwise_iff_getElem.2 fun i j hi hj hij => ?_
  have h3 := all (j - i - 1) i (by omega)
  rw [show i + (j - i - 1) + 1 = j by omega] at h3
  have e1 := at2_some hi
  have e2 := at2_some hj
  rw [List.getElem?_eq_getElem hi] at e1
  rw [List.getElem?_eq_getElem hj] at e2
  rw [Option.some.inj e1, Option.some.inj e2]
  exact h3
theorem okS_bound' {xs : List (Int × Int)} (h : ∀ x ∈ xs, okS x = true) : ∀ x ∈ xs, 0 ≤ x.2 ∧ x.2 ≤ 10737418240000 := fun x hx => by
  have := okS_iff.1 (h x hx)
  omega
end Go.Proofs.Ytbcpdecgfdlaaaa
/- Parts of a sum, in plain numbers; the law ShareParts. Conditions: none. -/
namespace Go.Proofs.Ytbcpdecgfdlaaaa
open Go Go.Proofs.Ytbcpdecgfdlaaaa.Ev
set_option linter.unusedVariables false
set_option linter.unusedSimpArgs false
set_option maxRecDepth 100000
set_option maxHeartbeats 4000000
theorem bump_rem {a : Int} {ws : List Int} {i : Nat} (hS : 0 < ws.sum) (hi : i < ws.length) (h : (i : Int) ∈ (ord (rems a ws.sum ws)).take (a - (quos a ws.sum ws).sum).toNat) : 0 < a * g ws i % ws.sum := by
  have hb := left_bound (a := a) hS (show 0 < ws.length by omega)
  obtain ⟨p, hp, e⟩ := List.getElem_of_mem h
  rw [List.getElem_take] at e
  rw [List.length_take, ord_length, rems_length] at hp
  have := rem_pos (a := a) (p := p) hS (by omega) (by omega)
  rw [g_eq (xs := ord _) (by rw [ord_length, rems_length]; omega), e, Int.toNat_natCast, g_rems hi] at this
  exact this
/-- Each part differs by less than one from its exact part. -/
theorem part_near {a : Int} {ws : List Int} {i : Nat} (hS : 0 < ws.sum) (hi : i < ws.length) : ws.sum * g (divParts a ws.sum ws) i - a * g ws i < ws.sum ∧ -ws.sum < ws.sum * g (divParts a ws.sum ws) i - a * g ws i := by
  have e1 := Int.mul_ediv_add_emod (a * g ws i) ws.sum
  have e2 := Int.emod_nonneg (a * g ws i) (b := ws.sum) (by omega)
  have e3 := Int.emod_lt_of_pos (a * g ws i) hS
  have hlt := bump_rem (a := a) hS hi
  unfold divParts
  rw [g_bump (by rw [quos_length]; exact hi), g_quos hi]
  generalize a * g ws i / ws.sum = q at *
  generalize a * g ws i % ws.sum = r at *
  generalize a * g ws i = v at *
  by_cases h : (i : Int) ∈ (ord (rems a ws.sum ws)).take (a - (quos a ws.sum ws).sum).toNat
  · rw [if_pos h]
    have := hlt h
    rw [Int.mul_add, Int.mul_one]
    generalize ws.sum * q = t at *
    omega
  · rw [if_neg h, Int.add_zero]
    generalize ws.sum * q = t at *
    omega
theorem g_amts {xs : List (Int × Int)} {i : Nat} (h : i < xs.length) : g (amts xs) i = (at2 xs i).2 := by
  unfold amts g
  rw [List.getElem?_map, at2_some h]
  rfl
end Go.Proofs.Ytbcpdecgfdlaaaa
/- The law ShareWhole in plain numbers. Conditions: none. -/
namespace Go.Proofs.Ytbcpdecgfdlaaaa
open Go Go.Proofs.Ytbcpdecgfdlaaaa.Ev
set_option linter.unusedVariables false
set_option linter.unusedSimpArgs false
set_option maxRecDepth 100000
set_option maxHeartbeats 4000000
theorem withL_nil {ns : List Int} : withL [] ns = [] := by simp [withL]
theorem withL_cons {x : Int × Int} {n : Int} {xs : List (Int × Int)} {ns : List Int} : withL (x :: xs) (n :: ns) = if 0 < n then (x.1, n) :: withL xs ns else withL xs ns := by
  unfold withL
  rw [List.zip_cons_cons]
  by_cases h : 0 < n
  · rw [List.filterMap_cons_some (by simp only; rw [if_pos h]), if_pos h]
  · rw [List.filterMap_cons_none (by simp only; rw [if_neg h]), if_neg h]
/-- Numbers that are at most those of shares. -/
def Under : List (Int × Int) → List Int → Prop
  | [], [] => True
  | x :: xs, n :: ns => 0 ≤ n ∧ n ≤ x.2 ∧ Under xs ns
  | _, _ => False
theorem under_of : ∀ {xs : List (Int × Int)} {ns : List Int}, ns.length = xs.length → (∀ i, i < xs.length → 0 ≤ g ns i ∧ g ns i ≤ (at2 xs i).2) → Under xs ns
  | [], [], _, _ => trivial
  | [], _ :: _, h, _ => by simp at h
  | _ :: _, [], h, _ => by simp at h
  | x :: xs, n :: ns, h, hb => by
    have h0 := hb 0 (by simp)
    refine ⟨h0.1, h0.2, under_of (by simpa using h) fun i hi => ?_⟩
    have := hb (i + 1) (by simpa using hi)
    simpa [g, at2] using this
theorem withL_mem : ∀ {xs : List (Int × Int)} {ns : List Int}, Under xs ns → ∀ p ∈ withL xs ns, ∃ x ∈ xs, p.1 = x.1 ∧ 0 < p.2 ∧ p.2 ≤ x.2
  | [], [], _, p, hp => by rw [withL_nil] at hp; cases hp
  | [], _ :: _, h, _, _ => by cases h
  | _ :: _, [], h, _, _ => by cases h
  | x :: xs, n :: ns, h, p, hp => by
    obtain ⟨h1, h2, h3⟩ := h
    rw [withL_cons] at hp
    by_cases h0 : 0 < n
    · rw [if_pos h0] at hp
      rcases List.mem_cons.1 hp with rfl | hp
      · exact ⟨x, by simp, rfl, h0, h2⟩
      · obtain ⟨y, hy, k⟩ := withL_mem h3 p hp
        exact ⟨y, by simp [hy], k⟩
    · rw [if_neg h0] at hp
      obtain ⟨y, hy, k⟩ := withL_mem h3 p hp
      exact ⟨y, by simp [hy], k⟩
theorem withL_sorted : ∀ {xs : List (Int × Int)} {ns : List Int}, Under xs ns → SortedF xs → SortedF (withL xs ns)
  | [], [], _, _ => by rw [withL_nil]; exact List.Pairwise.nil
  | [], _ :: _, h, _ => by cases h
  | _ :: _, [], h, _ => by cases h
  | x :: xs, n :: ns, h, hs => by
    obtain ⟨h1, h2, h3⟩ := h
    have hs' := List.pairwise_cons.1 hs
    rw [withL_cons]
    by_cases h0 : 0 < n
    · rw [if_pos h0]
      refine List.pairwise_cons.2 ⟨fun p hp => ?_, withL_sorted h3 hs'.2⟩
      obtain ⟨y, hy, k1, _⟩ := withL_mem h3 p hp
      have := hs'.1 y hy
      simp only
      omega
    · rw [if_neg h0]
      exact withL_sorted h3 hs'.2
theorem withL_sum : ∀ {xs : List (Int × Int)} {ns : List Int}, Under xs ns → sumA (withL xs ns) = ns.sum
  | [], [], _ => by rw [withL_nil]; rfl
  | [], _ :: _, h => by cases h
  | _ :: _, [], h => by cases h
  | x :: xs, n :: ns, h => by
    obtain ⟨h1, h2, h3⟩ := h
    have ih := withL_sum h3
    rw [withL_cons]
    by_cases h0 : 0 < n
    · rw [if_pos h0]
      simp only [sumA, List.map_cons, List.sum_cons] at ih ⊢
      omega
    · rw [if_neg h0]
      simp only [List.sum_cons]
      omega
theorem sum_under : ∀ {xs : List (Int × Int)} {ns : List Int}, Under xs ns → 0 ≤ ns.sum ∧ ns.sum ≤ sumA xs
  | [], [], _ => ⟨by decide, by decide⟩
  | [], _ :: _, h => by cases h
  | _ :: _, [], h => by cases h
  | x :: xs, n :: ns, h => by
    obtain ⟨h1, h2, h3⟩ := h
    have ih := sum_under h3
    simp only [sumA, List.map_cons, List.sum_cons] at ih ⊢
    omega
/-- What makes shares right. -/
theorem shareCheck_intro {xs : List (Int × Int)} (h1 : xs.length ≤ 32) (h2 : ∀ x ∈ xs, okS x = true) (h3 : SortedF xs) (h4 : sumA xs ≤ 10737418240000) : shareCheck xs = 0 := by
  have hf : ∀ i, i < xs.length → sfault xs i = 0 := fun i hi => by
    unfold sfault
    rw [if_pos (h2 _ (at2_mem hi))]
    by_cases h0 : 0 < i
    · have := List.pairwise_iff_getElem.1 h3 (i - 1) i (by omega) hi (by omega)
      have e1 := at2_some (xs := xs) (i := i - 1) (by omega)
      have e2 := at2_some hi
      rw [List.getElem?_eq_getElem (by omega)] at e1
      rw [List.getElem?_eq_getElem hi] at e2
      rw [Option.some.inj e1, Option.some.inj e2] at this
      rw [if_neg (by omega)]
    · rw [if_neg (fun h => h0 h.1)]
  unfold shareCheck
  rw [if_neg (by omega)]
  rcases first_cases (sfault xs) xs.length with ⟨_, e⟩ | ⟨m, hm, hne, _⟩
  · rw [e, if_pos rfl, if_neg (by omega)]
  · exact absurd (hf m hm) hne
theorem withL_right {xs : List (Int × Int)} {ns : List Int} (h : shareCheck xs = 0) (hu : Under xs ns) : shareCheck (withL xs ns) = 0 := by
  obtain ⟨k1, k2, k3, k4⟩ := shareCheck_ok h
  have hl := withL_length (xs := xs) (ns := ns)
  have hs := sum_under hu
  refine shareCheck_intro (by omega) (fun p hp => ?_) (withL_sorted hu (shareCheck_sorted h)) (by rw [withL_sum hu]; omega)
  obtain ⟨x, hx, e1, e2, e3⟩ := withL_mem hu p hp
  have := okS_iff.1 (k3 x hx)
  exact okS_iff.2 (by omega)
theorem joinL_first {u : Int × Int} {A B : List (Int × Int)} (h : ∀ p ∈ B, u.1 < p.1) : joinL (u :: A) B = u :: joinL A B := by
  cases B with
  | nil => rw [joinL_nil, joinL_nil]
  | cons y ys => rw [joinL_lt (h y (by simp))]
theorem joinL_second {u : Int × Int} {A B : List (Int × Int)} (h : ∀ p ∈ A, u.1 < p.1) : joinL A (u :: B) = u :: joinL A B := by
  cases A with
  | nil => rw [nil_joinL, nil_joinL]
  | cons y ys => rw [joinL_gt (h y (by simp))]
/-- What stays. -/
def restL (xs : List (Int × Int)) (ns : List Int) : List Int := (xs.zip ns).map fun p => p.1.2 - p.2
theorem restL_cons {x : Int × Int} {n : Int} {xs : List (Int × Int)} {ns : List Int} : restL (x :: xs) (n :: ns) = (x.2 - n) :: restL xs ns := rfl
theorem restL_under : ∀ {xs : List (Int × Int)} {ns : List Int}, Under xs ns → Under xs (restL xs ns)
  | [], [], _ => trivial
  | [], _ :: _, h => by cases h
  | _ :: _, [], h => by cases h
  | x :: xs, n :: ns, h => by
    obtain ⟨h1, h2, h3⟩ := h
    rw [restL_cons]
    exact ⟨by omega, by omega, restL_under h3⟩
/-- Both parts, joined, are the whole. -/
theorem join_whole : ∀ {xs : List (Int × Int)} {ns : List Int}, Under xs ns → SortedF xs → (∀ x ∈ xs, 0 < x.2) → joinL (withL xs ns) (withL xs (restL xs ns)) = xs
  | [], [], _, _, _ => by rw [withL_nil, withL_nil, joinL_nil]
  | [], _ :: _, h, _, _ => by cases h
  | _ :: _, [], h, _, _ => by cases h
  | x :: xs, n :: ns, h, hs, hp => by
    obtain ⟨h1, h2, h3⟩ := h
    have hs' := List.pairwise_cons.1 hs
    have ih := join_whole h3 hs'.2 fun y hy => hp y (by simp [hy])
    have hx := hp x (by simp)
    have hA : ∀ p ∈ withL xs ns, x.1 < p.1 := fun p hp => by
      obtain ⟨y, hy, k1, _⟩ := withL_mem h3 p hp
      have := hs'.1 y hy
      omega
    have hB : ∀ p ∈ withL xs (restL xs ns), x.1 < p.1 := fun p hp => by
      obtain ⟨y, hy, k1, _⟩ := withL_mem (restL_under h3) p hp
      have := hs'.1 y hy
      omega
    rw [restL_cons, withL_cons, withL_cons]
    by_cases c1 : 0 < n
    · rw [if_pos c1]
      by_cases c2 : 0 < x.2 - n
      · rw [if_pos c2, joinL_eq (x := (x.1, n)) (y := (x.1, x.2 - n)) rfl, ih]
        simp only
        rw [show n + (x.2 - n) = x.2 by omega]
      · rw [if_neg c2, joinL_first (u := (x.1, n)) hB, ih, show n = x.2 by omega]
    · rw [if_neg c1, if_pos (show 0 < x.2 - n by omega), joinL_second (u := (x.1, x.2 - n)) hA, ih, show n = 0 by omega, Int.sub_zero]
theorem less_rest {xs : List (Int × Int)} {ps : List Int} (h : ps.length = xs.length) : less (amts xs) ps (amts xs).length = restL xs ps := by
  have e1 : (amts xs).length = xs.length := by simp [amts]
  refine g_ext (by rw [less_length]; simp [restL, amts, h]) fun k hk => ?_
  rw [less_length, e1] at hk
  rw [g_less (by omega), if_pos (by omega), g_amts hk]
  have := at2_some hk
  unfold restL g
  rw [List.getElem?_map, List.getElem?_zip_eq_some.2 (⟨at2_some hk, List.getElem?_eq_getElem (show k < ps.length by omega)⟩ : xs[k]? = some (at2 xs k, ps[k]).1 ∧ ps[k]? = some (at2 xs k, ps[k]).2), List.getElem?_eq_getElem (show k < ps.length by omega)]
  rfl
theorem take_law {xs : List (Int × Int)} {n : Int} (h : (takeOf xs n).2.2 = 0) : shareCheck xs = 0 ∧ 0 ≤ n ∧ n ≤ sumA xs ∧ ∃ ps : List Int, ps.length = xs.length ∧ Under xs ps ∧ ps.sum = n ∧ takeOf xs n = (withL xs ps, withL xs (restL xs ps), 0) ∧
    ∀ i, i < xs.length → sumA xs * g ps i - n * (at2 xs i).2 < sumA xs ∧ -sumA xs < sumA xs * g ps i - n * (at2 xs i).2 := by
  unfold takeOf at *
  by_cases h1 : shareCheck xs = 0
  · rw [if_pos h1] at *
    by_cases h2 : n < 0
    · rw [if_pos h2] at h; cases h
    · rw [if_neg h2] at *
      by_cases h3 : sumA xs < n
      · rw [if_pos h3] at h; cases h
      · rw [if_neg h3] at *
        by_cases h4 : xs.length = 0
        · have hx : xs = [] := List.eq_nil_of_length_eq_zero h4
          subst hx
          have hz : sumA [] = 0 := rfl
          rw [if_pos h4]
          refine ⟨h1, by omega, by omega, [], rfl, trivial, ?_, by rw [withL_nil, withL_nil], fun i hi => by simp at hi⟩
          show (0 : Int) = n
          omega
        · rw [if_neg h4] at *
          obtain ⟨k1, k2, k3, k4⟩ := shareCheck_ok h1
          obtain ⟨d1, hw⟩ := draw_right (n := n) h1 (by omega) (by omega) (show 0 < xs.length by omega)
          have hne := (weighOf_ok (show (weighOf n (amts xs)).2 = 0 by rw [hw])).2.2.2.2.2.1
          have hs : (amts xs).sum = sumA xs := rfl
          have hb := (sumA_bound xs (okS_bound k3)).1
          have hal : (amts xs).length = xs.length := by simp [amts]
          have hS : 0 < (amts xs).sum := by omega
          have hpl : (divParts n (sumA xs) (amts xs)).length = xs.length := by rw [divParts_length, hal]
          have hw0 : ∀ w ∈ amts xs, 0 ≤ w := fun w hw => by
            obtain ⟨x, hx, rfl⟩ := List.mem_map.1 hw
            exact (okS_bound k3 x hx).1
          rw [d1]
          refine ⟨h1, by omega, by omega, divParts n (sumA xs) (amts xs), hpl, under_of hpl fun i hi => ?_, ?_, ?_, fun i hi => ?_⟩
          · have := part_bound (a := n) (ws := amts xs) (i := i) (by omega) hS (by omega) hw0 (by omega)
            rw [hs, g_amts hi] at this
            exact this
          · have := divParts_sum (a := n) (ws := amts xs) hS (by omega)
            rw [hs] at this
            exact this
          · simp only
            rw [less_rest hpl]
          · have := part_near (a := n) (ws := amts xs) (i := i) hS (by omega)
            rw [hs, g_amts hi] at this
            exact this
  · rw [if_neg h1] at h; cases h
end Go.Proofs.Ytbcpdecgfdlaaaa
/- What Sum of package mix computes. Conditions: those of each law. -/
namespace Go.Proofs.Ytbcpdecgfdlaaaa
open Go Go.Proofs.Ytbcpdecgfdlaaaa.Ev
set_option linter.unusedVariables false
set_option linter.unusedSimpArgs false
set_option maxRecDepth 100000
set_option maxHeartbeats 4000000
theorem IndexFunc_liq {T : Table} {v : V} {h : H} {xs : List (Int × Int)} {f : Bool} (p : Int × Int → Bool) (hn : xs.length < 2 ^ 63) (hc : ∀ x ∈ xs, ∀ {R : Type} (k : V → H → Option R), callV T.dy v [.agg [.int .i64 x.1, .int .i64 x.2]] h k = k (.bool (p x)) h) :
    slices_IndexFunc_api_Liquid_api_Liquid T (rowSV f [.int .i64, .int .i64] xs) v h = some (idxOf p xs, h) := by
  unfold slices_IndexFunc_api_Liquid_api_Liquid
  rw [iter_find xs p (fun i => (i : Int)) hn (fun i x hx => by
    obtain ⟨hlt, rfl⟩ := List.getElem?_eq_some_iff.1 hx
    unfold slices_IndexFunc_api_Liquid_api_Liquid.loop1
    simp only [rowSV_len, Int.toNat_natCast]
    rw [decide_eq_true (by omega), cond_true, guardO_pos (by omega), rds_rowF (ls := j2) (w := 2) rfl (by omega) rfl, hx]
    simp only [Option.bind_some]
    rw [hc _ (List.getElem_mem hlt)]
    simp only [Res.pack, Ty.pack, Leaf.pack, Option.bind_some]
    rw [i64_succ (by omega)]
    cases p xs[i] <;> rfl) (by
    unfold slices_IndexFunc_api_Liquid_api_Liquid.loop1
    simp only [rowSV_len]
    rw [decide_eq_false (by omega), cond_false])]
  unfold idxOf
  cases xs.findIdx? p <;> rfl
theorem ContainsFunc_liq {T : Table} {v : V} {h : H} {xs : List (Int × Int)} {f : Bool} (p : Int × Int → Bool) (hn : xs.length < 2 ^ 63) (hc : ∀ x ∈ xs, ∀ {R : Type} (k : V → H → Option R), callV T.dy v [.agg [.int .i64 x.1, .int .i64 x.2]] h k = k (.bool (p x)) h) :
    slices_ContainsFunc_api_Liquid_api_Liquid T (rowSV f [.int .i64, .int .i64] xs) v h = some (xs.any p, h) := by
  unfold slices_ContainsFunc_api_Liquid_api_Liquid
  rw [IndexFunc_liq (T := slices_ContainsFunc_api_Liquid_api_Liquid.tb T) p hn hc]
  simp only [Option.bind_some, idxOf_nonneg]
theorem sum1_ok (a v : Int) : mix_Sum_1P (a, v) = some (!isPlain (a, v)) := by
  unfold mix_Sum_1P mix_Sum_1
  simp -implicitDefEqProofs only [evs, reduceIte, rdRes, rdTT, rdTy, rdLT, Res.un, TT.un, Ty.un, LT.un, Leaf.un, Leaf.plain, LT.plain, evh, List.replicate, splice, LT.pack, Leaf.pack, Nat.reduceAdd, Nat.reduceSub, Nat.reduceLeDiff, Nat.reduceLT, Nat.reduceEqDiff, LT.lo, Leaf.lo]
  rw [plain_ok]
  simp -implicitDefEqProofs only [evs, reduceIte, rdRes, rdTT, rdTy, rdLT, Res.un, TT.un, Ty.un, LT.un, Leaf.un, Leaf.plain, LT.plain, evh, List.replicate, splice, LT.pack, Leaf.pack, Nat.reduceAdd, Nat.reduceSub, Nat.reduceLeDiff, Nat.reduceLT, Nat.reduceEqDiff, LT.lo, Leaf.lo]
/-- The sum of liquids. -/
def sumL (xs : List (Int × Int)) : Int × Int := ((xs.map (·.1)).sum, (xs.map (·.2)).sum)
theorem sumL_take {xs : List (Int × Int)} {i : Nat} {x : Int × Int} (h : xs[i]? = some x) : sumL (xs.take (i + 1)) = ((sumL (xs.take i)).1 + x.1, (sumL (xs.take i)).2 + x.2) := by
  obtain ⟨hi, rfl⟩ := List.getElem?_eq_some_iff.1 h
  rw [← List.take_append_getElem hi]
  unfold sumL
  simp only [List.map_append, List.map_cons, List.map_nil, List.sum_append, List.sum_cons, List.sum_nil, Int.add_zero]
theorem sumL_bound {xs : List (Int × Int)} (h : ∀ x ∈ xs, isPlain x = true) : 0 ≤ (sumL xs).1 ∧ (sumL xs).1 ≤ xs.length * 10737418240000 ∧ 0 ≤ (sumL xs).2 ∧ (sumL xs).2 ≤ xs.length * 128849018880000 := by
  induction xs with
  | nil => simp [sumL]
  | cons x xs ih =>
    have h1 := ih fun y hy => h y (by simp [hy])
    have h2 := isPlain_iff.1 (h x (by simp))
    simp only [sumL, List.map_cons, List.sum_cons, List.length_cons] at h1 ⊢
    omega
def slotsT (xs : List (Int × Int)) (i : Nat) : List Slot := c2 (0, 0) :: c2 (sumL (xs.take i)) :: (xs.take i).map c2
theorem slotsT_succ {xs : List (Int × Int)} {i : Nat} {x : Int × Int} (h : xs[i]? = some x) : (slotsT xs i ++ [c2 x]).set 1 (c2 ((sumL (xs.take i)).1 + x.1, (sumL (xs.take i)).2 + x.2)) = slotsT xs (i + 1) := by
  unfold slotsT
  rw [sumL_take h]
  obtain ⟨hi, rfl⟩ := List.getElem?_eq_some_iff.1 h
  rw [← List.take_append_getElem hi, List.map_append]
  rfl
theorem wr0_c2 {sl : List Slot} {id : Nat} {x : Int × Int} {y : Int} (h : sl[id]? = some (c2 x)) : H.wrs (hL sl) (.hp id 2 0) [.int .i64 y] = some (hL (sl.set id (c2 (y, x.2)))) := by
  rw [wrs_own (g := 2) h rfl (by simp)]; rfl
theorem wr1_c2 {sl : List Slot} {id : Nat} {x : Int × Int} {y : Int} (h : sl[id]? = some (c2 x)) : H.wrs (hL sl) (.hp id 2 1) [.int .i64 y] = some (hL (sl.set id (c2 (x.1, y)))) := by
  rw [wrs_own (g := 2) h rfl (by simp)]; rfl
theorem total_ok {xs : List (Int × Int)} (hl : xs.length ≤ 8) (h : ∀ x ∈ xs, isPlain x = true) : mix_totalP xs = some (sumL xs) := by
  unfold mix_totalP mix_total
  simp -implicitDefEqProofs only [hL_empty, hL_new, hL_next, List.length_nil, List.nil_append, List.length_cons, Nat.zero_add, List.cons_append]
  have hloop : iter FUEL (mix_total.loop1 (rowSV false [.int .i64, .int .i64] xs) (hL [c2 (0, 0)])) (0, hL [c2 (0, 0), c2 (0, 0)]) = some (.ex0 (), hL (slotsT xs xs.length)) := by
    refine (iter_from (f := mix_total.loop1 (rowSV false [.int .i64, .int .i64] xs) (hL [c2 (0, 0)])) (fun i => ((i : Int), hL (slotsT xs i))) rfl xs.length FUEL (fun i hi => ?_) ?_ (fuel_gt (by omega)))
    · have hget := List.getElem?_eq_getElem hi
      have hb := sumL_bound (xs := xs.take i) (fun x hx => h x (List.mem_of_mem_take hx))
      have hx := isPlain_iff.1 (h _ (List.getElem_mem hi))
      rw [List.length_take, Nat.min_eq_left (by omega)] at hb
      generalize hxi : xs[i] = x at *
      have hlen : (slotsT xs i).length = i + 2 := by simp [slotsT]; omega
      have hrow : (slotsT xs i ++ [c2 x])[(slotsT xs i).length]? = some (c2 x) := by simp
      have htot : (slotsT xs i ++ [c2 x])[1]? = some (c2 (sumL (xs.take i))) := rfl
      have r1 := rd_c2 hrow
      have t1 := rd_c2 htot
      have nw := new_c2 (sl := slotsT xs i) (x := x)
      have w1 := wr0_c2 (y := (sumL (xs.take i)).1 + x.1) htot
      have htot2 : ((slotsT xs i ++ [c2 x]).set 1 (c2 ((sumL (xs.take i)).1 + x.1, (sumL (xs.take i)).2)))[1]? = some (c2 ((sumL (xs.take i)).1 + x.1, (sumL (xs.take i)).2)) := rfl
      have w2 := wr1_c2 (y := (sumL (xs.take i)).2 + x.2) htot2
      rw [List.set_set, slotsT_succ hget] at w2
      have hg1 : 0 ≤ (i : Int) ∧ (i : Int) < (xs.length : Int) := by omega
      unfold mix_total.loop1
      simp -implicitDefEqProofs only [Int.toNat_natCast, rowSV_len, reserve0, guardO_pos hg1]
      rw [decide_eq_true hg1.2, cond_true, rds_rowF (ls := j2) (w := 2) rfl (by omega) rfl, hget]
      simp -implicitDefEqProofs only [Option.bind_some, hL_new, hL_next, List.length_cons, List.length_nil, Nat.zero_add]
      rw [nw]
      simp -implicitDefEqProofs only [Option.bind_some, r1.1, r1.2, t1.1, t1.2]
      rw [i64_in _ (by omega), i64_in _ (by omega), w1]
      simp -implicitDefEqProofs only [Option.bind_some]
      rw [w2]
      simp -implicitDefEqProofs only [Option.bind_some]
      rw [guardO_pos (p := apartA _ _ = true) (by rw [hlen]; rfl), i64_succ (by omega)]
    · unfold mix_total.loop1
      simp -implicitDefEqProofs only [rowSV_len]
      rw [decide_eq_false (by omega), cond_false]
  simp only [c2] at hloop
  rw [hloop]
  have e0 : (slotsT xs xs.length)[0]? = some (c2 (0, 0)) := rfl
  have e1 : (slotsT xs xs.length)[1]? = some (c2 (sumL xs)) := by rw [slotsT, List.take_length]; rfl
  have w0 := wrs_c2 (y := sumL xs) e0
  have e2 : ((slotsT xs xs.length).set 0 (c2 (sumL xs)))[0]? = some (c2 (sumL xs)) := rfl
  simp -implicitDefEqProofs only [Option.bind_some, (rd_c2 e1).1, (rd_c2 e1).2]
  rw [w0]
  simp -implicitDefEqProofs only [Option.bind_some]
  rw [rds_c2 e2]
  simp -implicitDefEqProofs only [evs, reduceIte, rdRes, rdTT, rdTy, rdLT, Res.un, TT.un, Ty.un, LT.un, Leaf.un, Leaf.plain, LT.plain]
def sumOf (xs : List (Int × Int)) : (Int × Int) × Int :=
  if 8 < xs.length then ((0, 0), 8) else if xs.any (fun x => !isPlain x) = true then ((0, 0), 1) else if isPlain (sumL xs) = true then (sumL xs, 0) else ((0, 0), 15)
theorem Sum_ok (xs : List (Int × Int)) (hl : xs.length < 2 ^ 63) : mix_SumP xs = some (sumOf xs) := by
  unfold mix_SumP mix_Sum sumOf
  simp -implicitDefEqProofs only [evs, reduceIte, rdRes, rdTT, rdTy, rdLT, Res.un, TT.un, Ty.un, LT.un, Leaf.un, Leaf.plain, LT.plain, hL_empty, hL_new, hL_next, List.length_nil, List.nil_append, List.length_cons, Nat.zero_add, List.cons_append]
  have e0 : [c2 (0, 0)][0]? = some (c2 (0, 0)) := rfl
  have w0 := wrs_c2 (y := (0, 0)) e0
  have r0 := rds_c2 e0
  simp only [List.set_cons_zero, c2] at w0 r0
  by_cases h8 : 8 < xs.length
  · rw [if_pos h8, decide_eq_true (show (8 : Int) < (xs.length : Int) by omega)]
    simp -implicitDefEqProofs only [evs, reduceIte, rdRes, rdTT, rdTy, rdLT, Res.un, TT.un, Ty.un, LT.un, Leaf.un, Leaf.plain, LT.plain]
    rw [w0]
    simp -implicitDefEqProofs only [evs, reduceIte, rdRes, rdTT, rdTy, rdLT, Res.un, TT.un, Ty.un, LT.un, Leaf.un, Leaf.plain, LT.plain]
    rw [r0]
    simp -implicitDefEqProofs only [evs, reduceIte, rdRes, rdTT, rdTy, rdLT, Res.un, TT.un, Ty.un, LT.un, Leaf.un, Leaf.plain, LT.plain]
  · rw [if_neg h8, decide_eq_false (show ¬ (8 : Int) < (xs.length : Int) by omega)]
    simp -implicitDefEqProofs only [evs, reduceIte, rdRes, rdTT, rdTy, rdLT, Res.un, TT.un, Ty.un, LT.un, Leaf.un, Leaf.plain, LT.plain]
    rw [ContainsFunc_liq (fun x => !isPlain x) hl (fun x hx R k => by
      obtain ⟨a, v⟩ := x
      show (mix_Sum_1P (a, v)).bind (fun r => k ((Res.one (.leaf .bool)).lo true r) _) = _
      rw [sum1_ok]; rfl)]
    simp -implicitDefEqProofs only [evs, reduceIte, rdRes, rdTT, rdTy, rdLT, Res.un, TT.un, Ty.un, LT.un, Leaf.un, Leaf.plain, LT.plain]
    cases hany : xs.any (fun x => !isPlain x) with
    | true =>
      simp -implicitDefEqProofs only [evs, reduceIte, rdRes, rdTT, rdTy, rdLT, Res.un, TT.un, Ty.un, LT.un, Leaf.un, Leaf.plain, LT.plain]
      rw [w0]
      simp -implicitDefEqProofs only [evs, reduceIte, rdRes, rdTT, rdTy, rdLT, Res.un, TT.un, Ty.un, LT.un, Leaf.un, Leaf.plain, LT.plain]
      rw [r0]
      simp -implicitDefEqProofs only [evs, reduceIte, rdRes, rdTT, rdTy, rdLT, Res.un, TT.un, Ty.un, LT.un, Leaf.un, Leaf.plain, LT.plain]
    | false =>
      have hp : ∀ x ∈ xs, isPlain x = true := fun x hx => by
        have := List.any_eq_false.1 hany x hx
        simpa using this
      simp -implicitDefEqProofs only [evs, reduceIte, rdRes, rdTT, rdTy, rdLT, Res.un, TT.un, Ty.un, LT.un, Leaf.un, Leaf.plain, LT.plain, Bool.false_eq_true]
      rw [total_ok (by omega) hp]
      generalize sumL xs = s
      obtain ⟨s1, s2⟩ := s
      simp -implicitDefEqProofs only [evs, reduceIte, rdRes, rdTT, rdTy, rdLT, Res.un, TT.un, Ty.un, LT.un, Leaf.un, Leaf.plain, LT.plain, evh, List.replicate, splice, LT.pack, Leaf.pack, Nat.reduceAdd, Nat.reduceSub, Nat.reduceLeDiff, Nat.reduceLT, Nat.reduceEqDiff, LT.lo, Leaf.lo]
      rw [plain_ok]
      simp -implicitDefEqProofs only [evs, reduceIte, rdRes, rdTT, rdTy, rdLT, Res.un, TT.un, Ty.un, LT.un, Leaf.un, Leaf.plain, LT.plain, evh, List.replicate, splice, LT.pack, Leaf.pack, Nat.reduceAdd, Nat.reduceSub, Nat.reduceLeDiff, Nat.reduceLT, Nat.reduceEqDiff, LT.lo, Leaf.lo]
      cases isPlain (s1, s2) with
      | true => simp -implicitDefEqProofs only [evs, reduceIte, rdRes, rdTT, rdTy, rdLT, Res.un, TT.un, Ty.un, LT.un, Leaf.un, Leaf.plain, LT.plain, evh, List.replicate, splice, LT.pack, Leaf.pack, Nat.reduceAdd, Nat.reduceSub, Nat.reduceLeDiff, Nat.reduceLT, Nat.reduceEqDiff, LT.lo, Leaf.lo]
      | false => simp -implicitDefEqProofs only [evs, reduceIte, rdRes, rdTT, rdTy, rdLT, Res.un, TT.un, Ty.un, LT.un, Leaf.un, Leaf.plain, LT.plain, evh, List.replicate, splice, LT.pack, Leaf.pack, Nat.reduceAdd, Nat.reduceSub, Nat.reduceLeDiff, Nat.reduceLT, Nat.reduceEqDiff, LT.lo, Leaf.lo]; rfl
end Go.Proofs.Ytbcpdecgfdlaaaa
/- What Plain, Plus, Minus and Take of the reference of package mix compute. Conditions: those of each law. -/
namespace Go.Proofs.Ytbcpdecgfdlaaaa
open Go Go.Proofs.Ytbcpdecgfdlaaaa.Ev
set_option linter.unusedVariables false
set_option linter.unusedSimpArgs false
set_option maxRecDepth 100000
set_option maxHeartbeats 4000000
theorem share_bounds {x : Int × Int} {w : Int} (hp : isPlain x = true) (h0 : 0 ≤ w) (h1 : w ≤ x.2) : 0 ≤ x.1 * w / x.2 ∧ x.1 * w / x.2 ≤ x.1 := by
  rw [isPlain_iff] at hp
  rcases Int.lt_or_le 0 x.2 with h | h
  · exact share_le hp.1 h0 h h1
  · have : x.1 = 0 := by omega
    rw [this]; simp
end Go.Proofs.Ytbcpdecgfdlaaaa
/- What lot.Check and that of the reference compute. Conditions: those of each law. -/
namespace Go.Proofs.Ytbcpdecgfdlaaaa
open Go Go.Proofs.Ytbcpdecgfdlaaaa.Ev
set_option linter.unusedVariables false
set_option linter.unusedSimpArgs false
set_option maxRecDepth 100000
set_option maxHeartbeats 4000000
/-- A lot: its number, its alcohol, its mass, its shares. -/
abbrev LotT := Int × Int × Int × List (Int × Int)
abbrev jL : List Leaf := [.int .i64, .int .i64, .int .i64, .row [.int .i64, .int .i64]]
abbrev lotSV (f : Bool) (x : LotT) : Int × Int × Int × SV := (x.1, x.2.1, x.2.2.1, rowSV f j2 x.2.2.2)
theorem rd_lot {f : Bool} {h : H} {l : List LotT} {i : Nat} {x : LotT} (hx : l[i]? = some x) : rdT (.agg [.int .i64, .int .i64, .int .i64, .slice]) h ((rowSV f jL l).a.add (i * 4)) = some (lotSV f x) := by
  rw [rds_row (ls := jL) (w := 4) rfl rfl (by omega), hx]
  rfl
theorem rd_lot0 {f : Bool} {h : H} {l : List LotT} {i : Nat} {x : LotT} (hx : l[i]? = some x) : rdT (.leaf (.int .i64)) h (((rowSV f jL l).a.add (i * 4)).add 0) = some x.1 := by
  rw [add_add, rd_row (ls := jL) (w := 4) rfl (by omega), hx]; rfl
theorem nn_lot {f : Bool} {l : List LotT} {i : Nat} (hi : i < l.length) : V.nn ((rowSV f jL l).a.add (i * 4)) = true := nn_row (by omega) (by simp)
def atL (l : List LotT) (i : Nat) : LotT := l[i]?.getD (0, 0, 0, [])
theorem atL_some {l : List LotT} {i : Nat} (h : i < l.length) : l[i]? = some (atL l i) := by
  unfold atL
  rw [List.getElem?_eq_getElem h]
  rfl
theorem atL_mem {l : List LotT} {i : Nat} (h : i < l.length) : atL l i ∈ l := List.mem_of_getElem? (atL_some h)
abbrev cL (x : Int × Int × Int × SV) : Slot := .own [.int .i64 x.1, .int .i64 x.2.1, .int .i64 x.2.2.1, .slice x.2.2.2.a x.2.2.2.len x.2.2.2.cap x.2.2.2.tail] 4
theorem new_cL {sl : List Slot} {x : Int × Int × Int × SV} : H.wrs (hL (sl ++ [cL (0, 0, 0, ⟨.nil, 0, 0, false⟩)])) (.hp sl.length 4 0) [.int .i64 x.1, .int .i64 x.2.1, .int .i64 x.2.2.1, .slice x.2.2.2.a x.2.2.2.len x.2.2.2.cap x.2.2.2.tail] = some (hL (sl ++ [cL x])) := by
  rw [wrs_own (g := 4) (cs := [V.int .i64 0, V.int .i64 0, V.int .i64 0, V.slice .nil 0 0 false]) (e := 4) (by simp) rfl (by simp)]
  simp [splice]
theorem wrs_cL {sl : List Slot} {id : Nat} {x y : Int × Int × Int × SV} (h : sl[id]? = some (cL x)) : H.wrs (hL sl) (.hp id 4 0) [.int .i64 y.1, .int .i64 y.2.1, .int .i64 y.2.2.1, .slice y.2.2.2.a y.2.2.2.len y.2.2.2.cap y.2.2.2.tail] = some (hL (sl.set id (cL y))) := by
  rw [wrs_own (g := 4) h rfl (by simp)]; rfl
theorem rds_cL {sl : List Slot} {id : Nat} {x : Int × Int × Int × SV} (h : sl[id]? = some (cL x)) : rdT (.agg [.int .i64, .int .i64, .int .i64, .slice]) (hL sl) (.hp id 4 0) = some x := by
  rw [rds_hp (by simp), hL_m, h]; rfl
theorem rdl_cL {sl : List Slot} {id : Nat} {x : Int × Int × Int × SV} (h : sl[id]? = some (cL x)) : rdT (.agg [.int .i64, .int .i64]) (hL sl) (.hp id 4 1) = some (x.2.1, x.2.2.1) := by
  rw [rds_hp (by simp), hL_m, h]; rfl
theorem rd_cL {sl : List Slot} {id : Nat} {x : Int × Int × Int × SV} (h : sl[id]? = some (cL x)) : rdT (.leaf (.int .i64)) (hL sl) (.hp id 4 0) = some x.1 ∧ rdT (.leaf (.int .i64)) (hL sl) (.hp id 4 1) = some x.2.1 ∧ rdT (.leaf (.int .i64)) (hL sl) (.hp id 4 2) = some x.2.2.1 ∧ rdT (.leaf .slice) (hL sl) (.hp id 4 3) = some x.2.2.2 := by
  refine ⟨?_, ?_, ?_, ?_⟩ <;> (rw [rd_own (g := 4) h rfl]; rfl)
theorem rdRow_oneL {f t : Bool} {h : H} {d a m : Int} {xs : List (Int × Int)} : rdRow true h [.int .i64, .int .i64, .int .i64, .row [.int .i64, .int .i64]] ⟨.lp true [.int .i64 d, .int .i64 a, .int .i64 m, .slice (rowSV f j2 xs).a xs.length xs.length true] 0, 1, 1, t⟩ = some [(d, a, m, xs)] := by
  have h1 : rdLeaf true h (.row j2) (.slice (rowSV f j2 xs).a xs.length xs.length true) = some xs := rdRow_args rfl
  have e : H.rds h (.lp true [.int .i64 d, .int .i64 a, .int .i64 m, .slice (rowSV f j2 xs).a xs.length xs.length true] 0) (1 * 4) = some [.int .i64 d, .int .i64 a, .int .i64 m, .slice (rowSV f j2 xs).a xs.length xs.length true] := rfl
  show ((H.rds h (.lp true [.int .i64 d, .int .i64 a, .int .i64 m, .slice (rowSV f j2 xs).a xs.length xs.length true] 0) (1 * 4)).bind fun cs => mapO (fun c => rdLT true h jL c) (chunks 4 1 cs)) = _
  rw [e]
  show ((rdLT true h jL [.int .i64 d, .int .i64 a, .int .i64 m, .slice (rowSV f j2 xs).a xs.length xs.length true]).bind fun x => some [x]) = _
  simp only [rdLT, rdLeaf_int, h1, Option.bind_some]
theorem rdRow_a2 {f : Bool} {h : H} {xs : List (Int × Int)} : rdRow true h [.int .i64, .int .i64] ⟨(rowSV f [.int .i64, .int .i64] xs).a, xs.length, xs.length, true⟩ = some xs := rdRow_args (f := f) rfl
theorem rdRow_one2 {t : Bool} {h : H} {a v : Int} : rdRow true h [.int .i64, .int .i64] ⟨.lp true [.int .i64 a, .int .i64 v] 0, 1, 1, t⟩ = some [(a, v)] := rdRow_res (xs := ([(a, v)] : List (LT j2))) rfl
/-- The fault of the shares of a lot. -/
def lshares (xs : List (Int × Int)) (a : Int) : Int := if 32 < xs.length then 12 else if firstF (sfault xs) xs.length = 0 then (if sumA xs = a then 0 else 14) else 10
theorem okS_and {x1 x2 : Int} {h : H} {E : Option (Bool × H)} : (bif !(decide (x1 < 1)) then (bif !(decide ((1073741824 : Int) < x1)) then (bif !(decide (x2 < 1)) then (bif !(decide ((10737418240000 : Int) < x2)) then E else some (true, h)) else some (true, h)) else some (true, h)) else some (true, h) : Option (Bool × H)) = if okS (x1, x2) = true then E else some (true, h) := by
  unfold okS
  by_cases h1 : x1 < 1
  · rw [decide_eq_true h1, decide_eq_false (p := _ ∧ _) (by simp only; omega)]; rfl
  · rw [decide_eq_false h1]
    by_cases h2 : (1073741824 : Int) < x1
    · rw [decide_eq_true h2, decide_eq_false (p := _ ∧ _) (by simp only; omega)]; rfl
    · rw [decide_eq_false h2]
      by_cases h3 : x2 < 1
      · rw [decide_eq_true h3, decide_eq_false (p := _ ∧ _) (by simp only; omega)]; rfl
      · rw [decide_eq_false h3]
        by_cases h4 : (10737418240000 : Int) < x2
        · rw [decide_eq_true h4, decide_eq_false (p := _ ∧ _) (by simp only; omega)]; rfl
        · rw [decide_eq_false h4, decide_eq_true (p := _ ∧ _) (by simp only; omega)]; rfl
theorem lshares_step {xs : List (Int × Int)} {L : Slot} {h : H} {y : Int × Int × Int} {i : Nat} (h0 : h.next = 0) (hL0 : L = cL (y.1, y.2.1, y.2.2, rowSV false j2 xs)) (hi : i < xs.length) (h32 : xs.length ≤ 32) (hp : ∀ j, j < i → sfault xs j = 0) :
    lot_shares.loop1 h (rowSV false j2 xs) ((sumA (xs.take i), (i : Int)), hL (L :: (xs.take i).map c2)) = some (if sfault xs i = 0 then .more ((sumA (xs.take (i + 1)), ((i + 1 : Nat) : Int)), hL (L :: (xs.take (i + 1)).map c2)) else .done (.ret 10, hL (L :: (xs.take (i + 1)).map c2))) := by
  have hget := at2_some hi
  have hsl : (L :: (xs.take i).map c2) ++ [c2 (at2 xs i)] = L :: (xs.take (i + 1)).map c2 := by
    obtain ⟨h1, he⟩ := List.getElem?_eq_some_iff.1 hget
    rw [← List.take_append_getElem h1, he, List.map_append]
    rfl
  have hrow : ((L :: (xs.take i).map c2) ++ [c2 (at2 xs i)])[(L :: (xs.take i).map c2).length]? = some (c2 (at2 xs i)) := by simp
  have r1 := rd_c2 hrow
  have nw := new_c2 (sl := L :: (xs.take i).map c2) (x := at2 xs i)
  have hb := sumA_bound (xs.take i) (take_ok (by omega) hp)
  rw [List.length_take, Nat.min_eq_left (by omega)] at hb
  have hst := sumA_take hi
  have hg1 : 0 ≤ (i : Int) ∧ (i : Int) < (xs.length : Int) := by omega
  have r0 : rdT (.leaf .slice) (hL ((L :: (xs.take i).map c2) ++ [c2 (at2 xs i)])) (.hp 0 4 3) = some (rowSV false j2 xs) := (rd_cL (x := (y.1, y.2.1, y.2.2, rowSV false j2 xs)) (by rw [hL0]; rfl)).2.2.2
  unfold lot_shares.loop1
  simp -implicitDefEqProofs only [Int.toNat_natCast, rowSV_len, guardO_pos hg1, reserve0, h0]
  rw [decide_eq_true hg1.2, cond_true, rds_rowF (ls := j2) (w := 2) rfl (by omega) rfl, hget]
  simp -implicitDefEqProofs only [Option.bind_some, hL_new, hL_next]
  rw [nw]
  simp -implicitDefEqProofs only [Option.bind_some, r1.1, r1.2]
  rw [okS_and]
  unfold sfault
  cases hok : okS (at2 xs i) with
  | false =>
    simp -implicitDefEqProofs only [evs, reduceIte, rdRes, rdTT, rdTy, rdLT, Res.un, TT.un, Ty.un, LT.un, Leaf.un, Leaf.plain, LT.plain, Bool.false_eq_true]
    rw [hsl, if_neg (by simp)]
  | true =>
    have hok' := okS_iff.1 hok
    simp -implicitDefEqProofs only [evs, reduceIte, rdRes, rdTT, rdTy, rdLT, Res.un, TT.un, Ty.un, LT.un, Leaf.un, Leaf.plain, LT.plain, eq_self]
    cases i with
    | zero =>
      rw [decide_eq_false (show ¬ (0 : Int) < ((0 : Nat) : Int) by omega)]
      simp -implicitDefEqProofs only [evs, reduceIte, rdRes, rdTT, rdTy, rdLT, Res.un, TT.un, Ty.un, LT.un, Leaf.un, Leaf.plain, LT.plain, Bool.false_eq_true]
      rw [r1.2]
      simp -implicitDefEqProofs only [evs, reduceIte, rdRes, rdTT, rdTy, rdLT, Res.un, TT.un, Ty.un, LT.un, Leaf.un, Leaf.plain, LT.plain]
      rw [if_neg (show ¬ ((0 : Nat) < 0 ∧ _) by omega), if_pos rfl, hsl, i64_in _ (by omega), i64_succ (by omega), hst]
    | succ j =>
      have hj : ((j + 1 : Nat) : Int) - 1 = ((j : Nat) : Int) := by omega
      have hg2 : 0 ≤ (j : Int) ∧ (j : Int) < (xs.length : Int) := by omega
      rw [decide_eq_true (show (0 : Int) < ((j + 1 : Nat) : Int) by omega), hj, i64_in (j : Int) (by omega)]
      simp -implicitDefEqProofs only [evs, reduceIte, rdRes, rdTT, rdTy, rdLT, Res.un, TT.un, Ty.un, LT.un, Leaf.un, Leaf.plain, LT.plain, Int.toNat_natCast, r0]
      rw [guardO_pos hg2, guardO_pos (nn_at2 (by omega)), (rd_at2 (by omega)).1]
      simp -implicitDefEqProofs only [evs, reduceIte, rdRes, rdTT, rdTy, rdLT, Res.un, TT.un, Ty.un, LT.un, Leaf.un, Leaf.plain, LT.plain]
      rw [Nat.add_sub_cancel]
      by_cases hle : (at2 xs (j + 1)).1 ≤ (at2 xs j).1
      · rw [decide_eq_true hle]
        simp -implicitDefEqProofs only [evs, reduceIte, rdRes, rdTT, rdTy, rdLT, Res.un, TT.un, Ty.un, LT.un, Leaf.un, Leaf.plain, LT.plain]
        rw [if_pos (show (0 < j + 1 ∧ (at2 xs (j + 1)).1 ≤ (at2 xs j).1) from ⟨by omega, hle⟩), if_neg (by omega), hsl]
      · rw [decide_eq_false hle]
        simp -implicitDefEqProofs only [evs, reduceIte, rdRes, rdTT, rdTy, rdLT, Res.un, TT.un, Ty.un, LT.un, Leaf.un, Leaf.plain, LT.plain, Bool.false_eq_true]
        rw [r1.2]
        simp -implicitDefEqProofs only [evs, reduceIte, rdRes, rdTT, rdTy, rdLT, Res.un, TT.un, Ty.un, LT.un, Leaf.un, Leaf.plain, LT.plain]
        rw [if_neg (show ¬ (0 < j + 1 ∧ (at2 xs (j + 1)).1 ≤ (at2 xs j).1) from fun h => hle h.2), if_pos rfl, hsl, i64_in _ (by omega), i64_succ (by omega), hst]
theorem Lshares_ok (y : LotT) : lot_sharesP y = some (lshares y.2.2.2 y.2.1) := by
  obtain ⟨d, a, m, xs⟩ := y
  unfold lot_sharesP lot_shares lshares
  simp -implicitDefEqProofs only [evs, reduceIte, rdRes, rdTT, rdTy, rdLT, Res.un, TT.un, Ty.un, LT.un, Leaf.un, Leaf.plain, LT.plain, hL_empty, hL_new, hL_next, List.nil_append, List.length_nil]
  have e0 : [cL (d, a, m, rowSV false j2 xs)][0]? = some (cL (d, a, m, rowSV false j2 xs)) := rfl
  have r0 := rd_cL e0
  simp only [cL, rowSV_len, rowSV_cap, rowSV_tail] at r0
  rw [r0.2.2.2]
  simp -implicitDefEqProofs only [evs, reduceIte, rdRes, rdTT, rdTy, rdLT, Res.un, TT.un, Ty.un, LT.un, Leaf.un, Leaf.plain, LT.plain]
  by_cases h32 : 32 < xs.length
  · rw [if_pos h32, decide_eq_true (show (32 : Int) < (xs.length : Int) by omega)]
    simp -implicitDefEqProofs only [evs, reduceIte, rdRes, rdTT, rdTy, rdLT, Res.un, TT.un, Ty.un, LT.un, Leaf.un, Leaf.plain, LT.plain]
  · rw [if_neg h32, decide_eq_false (show ¬ (32 : Int) < (xs.length : Int) by omega)]
    simp -implicitDefEqProofs only [evs, reduceIte, rdRes, rdTT, rdTy, rdLT, Res.un, TT.un, Ty.un, LT.un, Leaf.un, Leaf.plain, LT.plain]
    rcases first_cases (sfault xs) xs.length with ⟨h1, h2⟩ | ⟨n, h1, h2, h3, h4⟩
    · rw [h2, if_pos rfl]
      have hloop := iter_from (s0 := (((0 : Int), (0 : Int)), hL [cL (d, a, m, rowSV false j2 xs)])) (f := lot_shares.loop1 (hL []) (rowSV false j2 xs)) (x := (.ex0 (sumA xs), hL (cL (d, a, m, rowSV false j2 xs) :: xs.map c2))) (fun i => ((sumA (xs.take i), (i : Int)), hL (cL (d, a, m, rowSV false j2 xs) :: (xs.take i).map c2))) rfl xs.length FUEL (fun i hi => by
        rw [lshares_step (y := (d, a, m)) rfl rfl hi (by omega) (fun j hj => h1 j (by omega)), if_pos (h1 i hi)]) (by
        unfold lot_shares.loop1
        simp -implicitDefEqProofs only [rowSV_len]
        rw [decide_eq_false (by omega), cond_false, List.take_length]) (fuel_gt (by omega))
      simp only [cL, rowSV_len, rowSV_cap, rowSV_tail] at hloop
      rw [hloop]
      simp -implicitDefEqProofs only [evs, reduceIte, rdRes, rdTT, rdTy, rdLT, Res.un, TT.un, Ty.un, LT.un, Leaf.un, Leaf.plain, LT.plain]
      have r1 := rd_cL (sl := cL (d, a, m, rowSV false j2 xs) :: xs.map c2) (id := 0) (x := (d, a, m, rowSV false j2 xs)) rfl
      simp only [cL, rowSV_len, rowSV_cap, rowSV_tail] at r1
      rw [r1.2.1]
      simp -implicitDefEqProofs only [evs, reduceIte, rdRes, rdTT, rdTy, rdLT, Res.un, TT.un, Ty.un, LT.un, Leaf.un, Leaf.plain, LT.plain]
      by_cases hs : sumA xs = a
      · rw [decide_eq_true hs, if_pos hs]; simp -implicitDefEqProofs only [evs, reduceIte, rdRes, rdTT, rdTy, rdLT, Res.un, TT.un, Ty.un, LT.un, Leaf.un, Leaf.plain, LT.plain]
      · rw [decide_eq_false hs, if_neg hs]; simp -implicitDefEqProofs only [evs, reduceIte, rdRes, rdTT, rdTy, rdLT, Res.un, TT.un, Ty.un, LT.un, Leaf.un, Leaf.plain, LT.plain]
    · rw [h4, if_neg h2]
      have hloop := iter_from (s0 := (((0 : Int), (0 : Int)), hL [cL (d, a, m, rowSV false j2 xs)])) (f := lot_shares.loop1 (hL []) (rowSV false j2 xs)) (x := (.ret 10, hL (cL (d, a, m, rowSV false j2 xs) :: (xs.take (n + 1)).map c2))) (fun i => ((sumA (xs.take i), (i : Int)), hL (cL (d, a, m, rowSV false j2 xs) :: (xs.take i).map c2))) rfl n FUEL (fun i hi => by
        rw [lshares_step (y := (d, a, m)) rfl rfl (by omega) (by omega) (fun j hj => h3 j (by omega)), if_pos (h3 i hi)]) (by
        rw [lshares_step (y := (d, a, m)) rfl rfl h1 (by omega) h3, if_neg h2]) (fuel_gt (by omega))
      simp only [cL, rowSV_len, rowSV_cap, rowSV_tail] at hloop
      rw [hloop]
      simp -implicitDefEqProofs only [evs, reduceIte, rdRes, rdTT, rdTy, rdLT, Res.un, TT.un, Ty.un, LT.un, Leaf.un, Leaf.plain, LT.plain]
theorem lplain_ok (a v : Int) : lot_plainP (a, v) = some (isPlain (a, v)) := by
  unfold lot_plainP lot_plain
  simp -implicitDefEqProofs only [evs, reduceIte, rdRes, rdTT, rdTy, rdLT, Res.un, TT.un, Ty.un, LT.un, Leaf.un, Leaf.plain, LT.plain, evh, List.replicate, splice, LT.pack, Leaf.pack, Nat.reduceAdd, Nat.reduceSub, Nat.reduceLeDiff, Nat.reduceLT, Nat.reduceEqDiff, LT.lo, Leaf.lo, rdRow_one2]
  rw [Sum_ok _ (by simp)]
  have hs : sumL [(a, v)] = (a, v) := by simp [sumL]
  unfold sumOf
  rw [hs]
  simp -implicitDefEqProofs only [evs, reduceIte, rdRes, rdTT, rdTy, rdLT, Res.un, TT.un, Ty.un, LT.un, Leaf.un, Leaf.plain, LT.plain, evh, List.replicate, splice, LT.pack, Leaf.pack, Nat.reduceAdd, Nat.reduceSub, Nat.reduceLeDiff, Nat.reduceLT, Nat.reduceEqDiff, LT.lo, Leaf.lo, List.any_cons, List.any_nil]
  cases h : isPlain (a, v) with
  | false => rfl
  | true => rfl
/-- The fault of a lot alone, but for its number. -/
def oneOf (x : LotT) : Int := if isPlain (x.2.1, x.2.2.1) = true ∧ x.2.2.1 ≠ 0 then lshares x.2.2.2 x.2.1 else 1
def okId (n : Int) : Bool := decide (1 ≤ n ∧ n ≤ 1073741824)
theorem okId_iff {n : Int} : okId n = true ↔ 1 ≤ n ∧ n ≤ 1073741824 := by simp [okId]
def lfault (l : List LotT) (i : Nat) : Int := if okId (atL l i).1 = true then (if 0 < i ∧ (atL l i).1 ≤ (atL l (i - 1)).1 then 5 else oneOf (atL l i)) else 2
def lotErr (l : List LotT) : Int := if 32 < l.length then 8 else firstF (lfault l) l.length
end Go.Proofs.Ytbcpdecgfdlaaaa
/- lot.Check and that of the reference, as far as errors go. Conditions: those of each law. -/
namespace Go.Proofs.Ytbcpdecgfdlaaaa
open Go Go.Proofs.Ytbcpdecgfdlaaaa.Ev
set_option linter.unusedVariables false
set_option linter.unusedSimpArgs false
set_option maxRecDepth 100000
set_option maxHeartbeats 4000000
theorem id_code {n : Int} {h : H} : (bif !(decide (n < 1)) then some ((decide ((1073741824 : Int) < n)), h) else some (true, h) : Option (Bool × H)) = some (!okId n, h) := by
  unfold okId
  by_cases h1 : n < 1
  · rw [decide_eq_true h1, decide_eq_false (p := _ ∧ _) (by omega)]; rfl
  · rw [decide_eq_false h1]
    by_cases h2 : (1073741824 : Int) < n
    · rw [decide_eq_true h2, decide_eq_false (p := _ ∧ _) (by omega)]; rfl
    · rw [decide_eq_false h2, decide_eq_true (p := _ ∧ _) (by omega)]; rfl
theorem Fault_ok (l : List LotT) {i : Nat} (hi : i < l.length) (hl : l.length < 2 ^ 62) : lot_faultP l (i : Int) = some (lfault l i) := by
  have hg1 : 0 ≤ (i : Int) ∧ (i : Int) < (l.length : Int) := by omega
  have hx := atL_some hi
  have hprev : 0 < i → l[i - 1]? = some (atL l (i - 1)) := fun h => atL_some (by omega)
  unfold lot_faultP lot_fault lfault
  generalize atL l i = x at *
  obtain ⟨d, a, m, xs⟩ := x
  simp -implicitDefEqProofs only [evs, reduceIte, rdRes, rdTT, rdTy, rdLT, Res.un, TT.un, Ty.un, LT.un, Leaf.un, Leaf.plain, LT.plain, Int.toNat_natCast, guardO_pos hg1]
  rw [rd_lot hx]
  simp -implicitDefEqProofs only [evs, reduceIte, rdRes, rdTT, rdTy, rdLT, Res.un, TT.un, Ty.un, LT.un, Leaf.un, Leaf.plain, LT.plain, hL_empty, hL_new, hL_next, List.nil_append, List.length_nil]
  have nw := new_cL (sl := []) (x := (d, a, m, rowSV false j2 xs))
  have e0 : ([] ++ [cL (d, a, m, rowSV false j2 xs)])[0]? = some (cL (d, a, m, rowSV false j2 xs)) := rfl
  have r0 := rd_cL e0
  have r1 := rdl_cL e0
  have r2 := rds_cL e0
  simp only [cL, rowSV_len, rowSV_cap, rowSV_tail, List.nil_append, List.length_nil] at nw r0 r1 r2
  rw [nw]
  simp -implicitDefEqProofs only [evs, reduceIte, rdRes, rdTT, rdTy, rdLT, Res.un, TT.un, Ty.un, LT.un, Leaf.un, Leaf.plain, LT.plain]
  rw [r0.1]
  simp -implicitDefEqProofs only [evs, reduceIte, rdRes, rdTT, rdTy, rdLT, Res.un, TT.un, Ty.un, LT.un, Leaf.un, Leaf.plain, LT.plain]
  rw [id_code]
  simp -implicitDefEqProofs only [evs, reduceIte, rdRes, rdTT, rdTy, rdLT, Res.un, TT.un, Ty.un, LT.un, Leaf.un, Leaf.plain, LT.plain]
  cases hid : okId d with
  | false =>
    simp -implicitDefEqProofs only [evs, reduceIte, rdRes, rdTT, rdTy, rdLT, Res.un, TT.un, Ty.un, LT.un, Leaf.un, Leaf.plain, LT.plain, Bool.false_eq_true]
  | true =>
    simp -implicitDefEqProofs only [evs, reduceIte, rdRes, rdTT, rdTy, rdLT, Res.un, TT.un, Ty.un, LT.un, Leaf.un, Leaf.plain, LT.plain, eq_self]
    have rest : ((((rdT (.agg [.int .i64, .int .i64]) (hL [cL (d, a, m, rowSV false j2 xs)]) (.hp 0 4 1)).bind fun (x13_0, x13_1) => ((lot_plainP (x13_0, x13_1)).bind fun r14 =>
        (bif !(!r14) then ((rdT (.leaf (.int .i64)) (hL [cL (d, a, m, rowSV false j2 xs)]) (.hp 0 4 2)).bind fun x15 => (some ((decide (x15 = 0)), (hL [cL (d, a, m, rowSV false j2 xs)])))) else (some (true, (hL [cL (d, a, m, rowSV false j2 xs)]))))))).bind fun (y16, h17) =>
        (bif y16 then (some ((1 : Int), h17)) else ((rdT (.agg [.int .i64, .int .i64, .int .i64, .slice]) h17 (.hp 0 4 0)).bind fun (x18_0, x18_1, x18_2, x18_3) => ((rdRow true h17 [.int .i64, .int .i64] x18_3).bind fun s20 =>
        ((lot_sharesP (x18_0, x18_1, x18_2, s20)).bind fun r19 => (some (r19, h17))))))) = some (oneOf (d, a, m, xs), hL [cL (d, a, m, rowSV false j2 xs)]) := by
      unfold oneOf
      simp only [cL, rowSV_len, rowSV_cap, rowSV_tail]
      rw [r1]
      simp -implicitDefEqProofs only [evs, reduceIte, rdRes, rdTT, rdTy, rdLT, Res.un, TT.un, Ty.un, LT.un, Leaf.un, Leaf.plain, LT.plain]
      rw [lplain_ok]
      simp -implicitDefEqProofs only [evs, reduceIte, rdRes, rdTT, rdTy, rdLT, Res.un, TT.un, Ty.un, LT.un, Leaf.un, Leaf.plain, LT.plain]
      cases hp : isPlain (a, m) with
      | false => simp -implicitDefEqProofs only [evs, reduceIte, rdRes, rdTT, rdTy, rdLT, Res.un, TT.un, Ty.un, LT.un, Leaf.un, Leaf.plain, LT.plain, Bool.false_eq_true, false_and]
      | true =>
        simp -implicitDefEqProofs only [evs, reduceIte, rdRes, rdTT, rdTy, rdLT, Res.un, TT.un, Ty.un, LT.un, Leaf.un, Leaf.plain, LT.plain, eq_self, true_and]
        rw [r0.2.2.1]
        simp -implicitDefEqProofs only [evs, reduceIte, rdRes, rdTT, rdTy, rdLT, Res.un, TT.un, Ty.un, LT.un, Leaf.un, Leaf.plain, LT.plain]
        by_cases hm : m = 0
        · rw [decide_eq_true hm, if_neg (fun h => h hm)]; simp -implicitDefEqProofs only [evs, reduceIte, rdRes, rdTT, rdTy, rdLT, Res.un, TT.un, Ty.un, LT.un, Leaf.un, Leaf.plain, LT.plain]
        · rw [decide_eq_false hm, if_pos hm]
          simp -implicitDefEqProofs only [evs, reduceIte, rdRes, rdTT, rdTy, rdLT, Res.un, TT.un, Ty.un, LT.un, Leaf.un, Leaf.plain, LT.plain]
          rw [r2]
          simp -implicitDefEqProofs only [evs, reduceIte, rdRes, rdTT, rdTy, rdLT, Res.un, TT.un, Ty.un, LT.un, Leaf.un, Leaf.plain, LT.plain]
          rw [Lshares_ok]
          simp -implicitDefEqProofs only [evs, reduceIte, rdRes, rdTT, rdTy, rdLT, Res.un, TT.un, Ty.un, LT.un, Leaf.un, Leaf.plain, LT.plain]
    simp only [cL, rowSV_len, rowSV_cap, rowSV_tail] at rest
    by_cases h0 : 0 < i
    · have hg2 : 0 ≤ ((i - 1 : Nat) : Int) ∧ ((i - 1 : Nat) : Int) < (l.length : Int) := by omega
      have hpr := hprev h0
      rw [decide_eq_true (show (0 : Int) < (i : Int) by omega), show (i : Int) - 1 = ((i - 1 : Nat) : Int) by omega, i64_nat (by omega)]
      simp -implicitDefEqProofs only [evs, reduceIte, rdRes, rdTT, rdTy, rdLT, Res.un, TT.un, Ty.un, LT.un, Leaf.un, Leaf.plain, LT.plain, Int.toNat_natCast, guardO_pos hg2]
      rw [guardO_pos (nn_lot (show i - 1 < l.length by omega)), rd_lot0 hpr]
      simp -implicitDefEqProofs only [evs, reduceIte, rdRes, rdTT, rdTy, rdLT, Res.un, TT.un, Ty.un, LT.un, Leaf.un, Leaf.plain, LT.plain]
      rw [r0.1]
      simp -implicitDefEqProofs only [evs, reduceIte, rdRes, rdTT, rdTy, rdLT, Res.un, TT.un, Ty.un, LT.un, Leaf.un, Leaf.plain, LT.plain]
      by_cases hle : d ≤ (atL l (i - 1)).1
      · rw [decide_eq_true hle, if_pos (show 0 < i ∧ d ≤ (atL l (i - 1)).1 from ⟨h0, hle⟩)]
        simp -implicitDefEqProofs only [evs, reduceIte, rdRes, rdTT, rdTy, rdLT, Res.un, TT.un, Ty.un, LT.un, Leaf.un, Leaf.plain, LT.plain]
      · rw [decide_eq_false hle, if_neg (show ¬ (0 < i ∧ d ≤ (atL l (i - 1)).1) from fun h => hle h.2)]
        simp -implicitDefEqProofs only [evs, reduceIte, rdRes, rdTT, rdTy, rdLT, Res.un, TT.un, Ty.un, LT.un, Leaf.un, Leaf.plain, LT.plain]
        rw [rest]
        simp -implicitDefEqProofs only [evs, reduceIte, rdRes, rdTT, rdTy, rdLT, Res.un, TT.un, Ty.un, LT.un, Leaf.un, Leaf.plain, LT.plain]
    · rw [decide_eq_false (show ¬ (0 : Int) < (i : Int) by omega), if_neg (show ¬ (0 < i ∧ d ≤ (atL l (i - 1)).1) from fun h => h0 h.1)]
      simp -implicitDefEqProofs only [evs, reduceIte, rdRes, rdTT, rdTy, rdLT, Res.un, TT.un, Ty.un, LT.un, Leaf.un, Leaf.plain, LT.plain]
      rw [rest]
      simp -implicitDefEqProofs only [evs, reduceIte, rdRes, rdTT, rdTy, rdLT, Res.un, TT.un, Ty.un, LT.un, Leaf.un, Leaf.plain, LT.plain]
theorem LCheck_ok (l : List LotT) (hl : l.length < 2 ^ 62) : ∃ j, lot_CheckP l = some (j, lotErr l) := by
  unfold lot_CheckP lot_Check lotErr
  by_cases h32 : 32 < l.length
  · rw [if_pos h32, rowSV_len, decide_eq_true (show (32 : Int) < (l.length : Int) by omega)]
    simp -implicitDefEqProofs only [evs, reduceIte, rdRes, rdTT, rdTy, rdLT, Res.un, TT.un, Ty.un, LT.un, Leaf.un, Leaf.plain, LT.plain]
    exact ⟨_, rfl⟩
  · rw [if_neg h32, rowSV_len, decide_eq_false (show ¬ (32 : Int) < (l.length : Int) by omega)]
    simp -implicitDefEqProofs only [evs, reduceIte, rdRes, rdTT, rdTy, rdLT, Res.un, TT.un, Ty.un, LT.un, Leaf.un, Leaf.plain, LT.plain]
    have step : ∀ i, i < l.length → lot_Check.loop1 (rowSV false jL l) ((i : Int), H.empty) = some (if lfault l i = 0 then .more (((i + 1 : Nat) : Int), H.empty) else .done (.ret ((i : Int), lfault l i), H.empty)) := fun i hi => by
      unfold lot_Check.loop1
      simp -implicitDefEqProofs only [evs, reduceIte, rdRes, rdTT, rdTy, rdLT, Res.un, TT.un, Ty.un, LT.un, Leaf.un, Leaf.plain, LT.plain]
      rw [decide_eq_true (show (i : Int) < (l.length : Int) by omega)]
      simp -implicitDefEqProofs only [evs, reduceIte, rdRes, rdTT, rdTy, rdLT, Res.un, TT.un, Ty.un, LT.un, Leaf.un, Leaf.plain, LT.plain]
      rw [Fault_ok l hi hl]
      simp -implicitDefEqProofs only [evs, reduceIte, rdRes, rdTT, rdTy, rdLT, Res.un, TT.un, Ty.un, LT.un, Leaf.un, Leaf.plain, LT.plain]
      by_cases hf : lfault l i = 0
      · rw [decide_eq_true hf, if_pos hf]
        simp -implicitDefEqProofs only [evs, reduceIte, rdRes, rdTT, rdTy, rdLT, Res.un, TT.un, Ty.un, LT.un, Leaf.un, Leaf.plain, LT.plain]
        rw [i64_succ (by omega)]
      · rw [decide_eq_false hf, if_neg hf]
        simp -implicitDefEqProofs only [evs, reduceIte, rdRes, rdTT, rdTy, rdLT, Res.un, TT.un, Ty.un, LT.un, Leaf.un, Leaf.plain, LT.plain]
    rcases first_cases (lfault l) l.length with ⟨h1, h2⟩ | ⟨n, h1, h2, h3, h4⟩
    · rw [h2, iter_from (s0 := ((0 : Int), H.empty)) (f := lot_Check.loop1 (rowSV false jL l)) (x := (.ex0 (), H.empty)) (fun i => ((i : Int), H.empty)) rfl l.length FUEL (fun i hi => by
        rw [step i hi, if_pos (h1 i hi)]) (by
        unfold lot_Check.loop1
        simp -implicitDefEqProofs only [rowSV_len]
        rw [decide_eq_false (by omega), cond_false]) (fuel_gt (by omega))]
      simp -implicitDefEqProofs only [evs, reduceIte, rdRes, rdTT, rdTy, rdLT, Res.un, TT.un, Ty.un, LT.un, Leaf.un, Leaf.plain, LT.plain]
      exact ⟨_, rfl⟩
    · rw [h4, iter_from (s0 := ((0 : Int), H.empty)) (f := lot_Check.loop1 (rowSV false jL l)) (x := (.ret ((n : Int), lfault l n), H.empty)) (fun i => ((i : Int), H.empty)) rfl n FUEL (fun i hi => by
        rw [step i (by omega), if_pos (h3 i hi)]) (by
        rw [step n h1, if_neg h2]) (fuel_gt (by omega))]
      simp -implicitDefEqProofs only [evs, reduceIte, rdRes, rdTT, rdTy, rdLT, Res.un, TT.un, Ty.un, LT.un, Leaf.un, Leaf.plain, LT.plain]
      exact ⟨_, rfl⟩
/-! The reference -/
theorem Sid_ok (n : Int) : share_idP n = some (okId n) := by
  unfold share_idP share_id okId
  by_cases h1 : (1 : Int) ≤ n
  · rw [decide_eq_true h1]
    simp -implicitDefEqProofs only [evs, reduceIte, rdRes, rdTT, rdTy, rdLT, Res.un, TT.un, Ty.un, LT.un, Leaf.un, Leaf.plain, LT.plain]
    by_cases h2 : n ≤ 1073741824
    · rw [decide_eq_true h2, decide_eq_true (p := _ ∧ _) (by omega)]
    · rw [decide_eq_false h2, decide_eq_false (p := _ ∧ _) (by omega)]
  · rw [decide_eq_false h1, decide_eq_false (p := _ ∧ _) (by omega)]
    simp -implicitDefEqProofs only [evs, reduceIte, rdRes, rdTT, rdTy, rdLT, Res.un, TT.un, Ty.un, LT.un, Leaf.un, Leaf.plain, LT.plain]
def rshares (xs : List (Int × Int)) : Int := if 32 < xs.length then 12 else if firstF (sfault xs) xs.length = 0 then 0 else 10
theorem rshares_bound {xs : List (Int × Int)} (h : rshares xs = 0) : xs.length ≤ 32 ∧ firstF (sfault xs) xs.length = 0 ∧ ∀ x ∈ xs, okS x = true := by
  unfold rshares at h
  by_cases h32 : 32 < xs.length
  · rw [if_pos h32] at h; cases h
  · rw [if_neg h32] at h
    by_cases hf : firstF (sfault xs) xs.length = 0
    · refine ⟨by omega, hf, fun x hx => ?_⟩
      rcases first_cases (sfault xs) xs.length with ⟨h1, h2⟩ | ⟨n, h1, h2, h3, h4⟩
      · obtain ⟨j, hj, e⟩ := List.getElem_of_mem hx
        have := sfault_ok (h1 j hj)
        have e1 := at2_some hj
        rw [List.getElem?_eq_getElem hj, e] at e1
        rw [Option.some.inj e1]
        exact this
      · rw [h4] at hf; exact absurd hf h2
    · rw [if_neg hf] at h; cases h
theorem lshares_split (xs : List (Int × Int)) (a : Int) : lshares xs a = if rshares xs = 0 then (if sumA xs = a then 0 else 14) else rshares xs := by
  unfold lshares rshares
  by_cases h32 : 32 < xs.length
  · rw [if_pos h32, if_pos h32, if_neg (by omega)]
  · rw [if_neg h32, if_neg h32]
    by_cases hf : firstF (sfault xs) xs.length = 0
    · rw [if_pos hf, if_pos hf, if_pos rfl]
    · rw [if_neg hf, if_neg hf, if_neg (by omega)]
end Go.Proofs.Ytbcpdecgfdlaaaa
/- share.Draw and that of the reference. Conditions: those of each law. -/
namespace Go.Proofs.Ytbcpdecgfdlaaaa
open Go Go.Proofs.Ytbcpdecgfdlaaaa.Ev
set_option linter.unusedVariables false
set_option linter.unusedSimpArgs false
set_option maxRecDepth 100000
set_option maxHeartbeats 4000000
/-- What is known of a right lot. -/
theorem oneOf_right {x : LotT} (h : oneOf x = 0) : isPlain (x.2.1, x.2.2.1) = true ∧ x.2.2.1 ≠ 0 ∧ shareCheck x.2.2.2 = 0 ∧ sumA x.2.2.2 = x.2.1 := by
  unfold oneOf at h
  by_cases hp : isPlain (x.2.1, x.2.2.1) = true ∧ x.2.2.1 ≠ 0
  · rw [if_pos hp, lshares_split] at h
    by_cases hr : rshares x.2.2.2 = 0
    · rw [if_pos hr] at h
      by_cases hs : sumA x.2.2.2 = x.2.1
      · refine ⟨hp.1, hp.2, ?_, hs⟩
        obtain ⟨k1, k2, k3⟩ := rshares_bound hr
        have hb := isPlain_iff.1 hp.1
        simp only at hb
        unfold shareCheck
        rw [if_neg (by omega), if_pos k2, if_neg (by omega)]
      · rw [if_neg hs] at h; cases h
    · rw [if_neg hr] at h; exact absurd h hr
  · rw [if_neg hp] at h; cases h
theorem oneOf_intro {x : LotT} (h1 : isPlain (x.2.1, x.2.2.1) = true) (h2 : x.2.2.1 ≠ 0) (h3 : shareCheck x.2.2.2 = 0) (h4 : sumA x.2.2.2 = x.2.1) : oneOf x = 0 := by
  unfold oneOf
  rw [if_pos ⟨h1, h2⟩]
  obtain ⟨k1, k2, k3, k4⟩ := shareCheck_ok h3
  unfold lshares
  rw [if_neg (by omega), if_pos, if_pos h4]
  rcases first_cases (sfault x.2.2.2) x.2.2.2.length with ⟨_, e⟩ | ⟨m, hm, hne, _⟩
  · exact e
  · exact absurd (k2 m hm) hne
theorem lotErr_one {x : LotT} : lotErr [x] = if okId x.1 = true then oneOf x else 2 := by
  have h0 : lfault [x] 0 = if okId x.1 = true then oneOf x else 2 := by
    unfold lfault
    show (if okId x.1 = true then (if 0 < 0 ∧ _ then 5 else oneOf x) else 2) = _
    rw [if_neg (show ¬ ((0 : Nat) < 0 ∧ _) by omega)]
  unfold lotErr
  rw [if_neg (by simp)]
  rw [← h0]
  rcases first_cases (lfault [x]) [x].length with ⟨h1, h2⟩ | ⟨n, h1, h2, h3, h4⟩
  · rw [h2, h1 0 (by simp)]
  · have : n = 0 := by simpa using h1
    subst this
    exact h4
theorem lotErr_right {l : List LotT} (h : lotErr l = 0) : l.length ≤ 32 ∧ ∀ i, i < l.length → lfault l i = 0 := by
  unfold lotErr at h
  by_cases h32 : 32 < l.length
  · rw [if_pos h32] at h; cases h
  · rw [if_neg h32] at h
    refine ⟨by omega, ?_⟩
    rcases first_cases (lfault l) l.length with ⟨h1, _⟩ | ⟨n, h1, h2, h3, h4⟩
    · exact h1
    · rw [h4] at h; exact absurd h h2
theorem lotErr_mem {l : List LotT} (h : lotErr l = 0) : ∀ x ∈ l, okId x.1 = true ∧ oneOf x = 0 := fun x hx => by
  obtain ⟨h1, h2⟩ := lotErr_right h
  obtain ⟨i, hi, e⟩ := List.getElem_of_mem hx
  have h3 := h2 i hi
  have e1 := atL_some hi
  rw [List.getElem?_eq_getElem hi, e] at e1
  unfold lfault at h3
  rw [← Option.some.inj e1] at h3
  by_cases hid : okId x.1 = true
  · rw [if_pos hid] at h3
    split at h3
    · cases h3
    · exact ⟨hid, h3⟩
  · rw [if_neg hid] at h3; cases h3
def drawL (x : LotT) (w n : Int) : LotT × LotT × Int :=
  if lotErr [x] = 0 then (if okId n = true ∧ 0 ≤ w then (if x.2.2.1 < w then ((0, 0, 0, []), (0, 0, 0, []), 17) else
    ((n, x.2.1 * w / x.2.2.1, w, (takeOf x.2.2.2 (x.2.1 * w / x.2.2.1)).1), (x.1, x.2.1 - x.2.1 * w / x.2.2.1, x.2.2.1 - w, (takeOf x.2.2.2 (x.2.1 * w / x.2.2.1)).2.1), 0)) else ((0, 0, 0, []), (0, 0, 0, []), 2)) else ((0, 0, 0, []), (0, 0, 0, []), 1)
theorem draw_facts {x : LotT} {w : Int} (h : lotErr [x] = 0) (h0 : 0 ≤ w) (h1 : w ≤ x.2.2.1) : shareCheck x.2.2.2 = 0 ∧ isPlain (x.2.1, x.2.2.1) = true ∧ 0 < x.2.2.1 ∧ 0 ≤ x.2.1 * w / x.2.2.1 ∧ x.2.1 * w / x.2.2.1 ≤ x.2.1 ∧ sumA x.2.2.2 = x.2.1 ∧ okId x.1 = true := by
  rw [lotErr_one] at h
  by_cases hid : okId x.1 = true
  · rw [if_pos hid] at h
    obtain ⟨k1, k2, k3, k4⟩ := oneOf_right h
    have hb := isPlain_iff.1 k1
    simp only at hb
    have hs := share_bounds k1 h0 h1
    simp only at hs
    exact ⟨k3, k1, by omega, hs.1, hs.2, k4, hid⟩
  · rw [if_neg hid] at h; cases h
theorem SDraw_ok (x : LotT) (w n : Int) (hl : x.2.2.2.length < 2 ^ 62) : share_DrawP x w n = some (drawL x w n) := by
  obtain ⟨j, hj⟩ := LCheck_ok [x] (by simp)
  unfold share_DrawP share_Draw drawL
  obtain ⟨d, a, m, xs⟩ := x
  simp only at hl
  simp -implicitDefEqProofs only [evs, reduceIte, rdRes, rdTT, rdTy, rdLT, Res.un, TT.un, Ty.un, LT.un, Leaf.un, Leaf.plain, LT.plain, evh, List.replicate, splice, LT.pack, Leaf.pack, Nat.reduceAdd, Nat.reduceSub, Nat.reduceLeDiff, Nat.reduceLT, Nat.reduceEqDiff, LT.lo, Leaf.lo, rdRow_oneL, rdRow_a2]
  rw [hj]
  simp -implicitDefEqProofs only [evs, reduceIte, rdRes, rdTT, rdTy, rdLT, Res.un, TT.un, Ty.un, LT.un, Leaf.un, Leaf.plain, LT.plain, evh, List.replicate, splice, LT.pack, Leaf.pack, Nat.reduceAdd, Nat.reduceSub, Nat.reduceLeDiff, Nat.reduceLT, Nat.reduceEqDiff, LT.lo, Leaf.lo, rdRow_a2]
  by_cases he : lotErr [(d, a, m, xs)] = 0
  · rw [decide_eq_true he, if_pos he]
    simp -implicitDefEqProofs only [evs, reduceIte, rdRes, rdTT, rdTy, rdLT, Res.un, TT.un, Ty.un, LT.un, Leaf.un, Leaf.plain, LT.plain, evh, List.replicate, splice, LT.pack, Leaf.pack, Nat.reduceAdd, Nat.reduceSub, Nat.reduceLeDiff, Nat.reduceLT, Nat.reduceEqDiff, LT.lo, Leaf.lo, rdRow_a2]
    rw [Sid_ok]
    simp -implicitDefEqProofs only [evs, reduceIte, rdRes, rdTT, rdTy, rdLT, Res.un, TT.un, Ty.un, LT.un, Leaf.un, Leaf.plain, LT.plain, evh, List.replicate, splice, LT.pack, Leaf.pack, Nat.reduceAdd, Nat.reduceSub, Nat.reduceLeDiff, Nat.reduceLT, Nat.reduceEqDiff, LT.lo, Leaf.lo, rdRow_a2]
    cases hid : okId n with
    | false =>
      simp -implicitDefEqProofs only [evs, reduceIte, rdRes, rdTT, rdTy, rdLT, Res.un, TT.un, Ty.un, LT.un, Leaf.un, Leaf.plain, LT.plain, evh, List.replicate, splice, LT.pack, Leaf.pack, Nat.reduceAdd, Nat.reduceSub, Nat.reduceLeDiff, Nat.reduceLT, Nat.reduceEqDiff, LT.lo, Leaf.lo, Bool.false_eq_true, false_and]
    | true =>
      simp -implicitDefEqProofs only [evs, reduceIte, rdRes, rdTT, rdTy, rdLT, Res.un, TT.un, Ty.un, LT.un, Leaf.un, Leaf.plain, LT.plain, evh, List.replicate, splice, LT.pack, Leaf.pack, Nat.reduceAdd, Nat.reduceSub, Nat.reduceLeDiff, Nat.reduceLT, Nat.reduceEqDiff, LT.lo, Leaf.lo, eq_self, true_and]
      by_cases h0 : w < 0
      · rw [decide_eq_true h0, if_neg (by omega)]
        simp -implicitDefEqProofs only [evs, reduceIte, rdRes, rdTT, rdTy, rdLT, Res.un, TT.un, Ty.un, LT.un, Leaf.un, Leaf.plain, LT.plain, evh, List.replicate, splice, LT.pack, Leaf.pack, Nat.reduceAdd, Nat.reduceSub, Nat.reduceLeDiff, Nat.reduceLT, Nat.reduceEqDiff, LT.lo, Leaf.lo, rdRow_a2]
      · rw [decide_eq_false h0, if_pos (show 0 ≤ w by omega)]
        simp -implicitDefEqProofs only [evs, reduceIte, rdRes, rdTT, rdTy, rdLT, Res.un, TT.un, Ty.un, LT.un, Leaf.un, Leaf.plain, LT.plain, evh, List.replicate, splice, LT.pack, Leaf.pack, Nat.reduceAdd, Nat.reduceSub, Nat.reduceLeDiff, Nat.reduceLT, Nat.reduceEqDiff, LT.lo, Leaf.lo, rdRow_a2]
        by_cases h1 : m < w
        · rw [decide_eq_true h1, if_pos h1]
          simp -implicitDefEqProofs only [evs, reduceIte, rdRes, rdTT, rdTy, rdLT, Res.un, TT.un, Ty.un, LT.un, Leaf.un, Leaf.plain, LT.plain, evh, List.replicate, splice, LT.pack, Leaf.pack, Nat.reduceAdd, Nat.reduceSub, Nat.reduceLeDiff, Nat.reduceLT, Nat.reduceEqDiff, LT.lo, Leaf.lo, rdRow_a2]
        · rw [decide_eq_false h1, if_neg h1]
          obtain ⟨k1, k2, k3, k4, k5, k6, k7⟩ := draw_facts he (show 0 ≤ w by omega) (show w ≤ m by omega)
          simp only at k1 k2 k3 k4 k5 k6
          have hd : drawOf (a, m) w = ((a * w / m, w), (a - a * w / m, m - w), 0) := by
            unfold drawOf
            rw [if_pos k2, if_neg h0, if_neg h1]
          simp -implicitDefEqProofs only [evs, reduceIte, rdRes, rdTT, rdTy, rdLT, Res.un, TT.un, Ty.un, LT.un, Leaf.un, Leaf.plain, LT.plain, evh, List.replicate, splice, LT.pack, Leaf.pack, Nat.reduceAdd, Nat.reduceSub, Nat.reduceLeDiff, Nat.reduceLT, Nat.reduceEqDiff, LT.lo, Leaf.lo, rdRow_a2]
          rw [Draw_ok, hd]
          simp -implicitDefEqProofs only [evs, reduceIte, rdRes, rdTT, rdTy, rdLT, Res.un, TT.un, Ty.un, LT.un, Leaf.un, Leaf.plain, LT.plain, evh, List.replicate, splice, LT.pack, Leaf.pack, Nat.reduceAdd, Nat.reduceSub, Nat.reduceLeDiff, Nat.reduceLT, Nat.reduceEqDiff, LT.lo, Leaf.lo, rdRow_a2]
          rw [STake_ok xs _ (by omega)]
          simp -implicitDefEqProofs only [evs, reduceIte, rdRes, rdTT, rdTy, rdLT, Res.un, TT.un, Ty.un, LT.un, Leaf.un, Leaf.plain, LT.plain, evh, List.replicate, splice, LT.pack, Leaf.pack, Nat.reduceAdd, Nat.reduceSub, Nat.reduceLeDiff, Nat.reduceLT, Nat.reduceEqDiff, LT.lo, Leaf.lo, rdRow_a2]
          rw [guardO_pos (by rfl), guardO_pos (by rfl)]
          simp -implicitDefEqProofs only [evs, reduceIte, rdRes, rdTT, rdTy, rdLT, Res.un, TT.un, Ty.un, LT.un, Leaf.un, Leaf.plain, LT.plain, evh, List.replicate, splice, LT.pack, Leaf.pack, Nat.reduceAdd, Nat.reduceSub, Nat.reduceLeDiff, Nat.reduceLT, Nat.reduceEqDiff, LT.lo, Leaf.lo, rdRow_j2]
  · rw [decide_eq_false he, if_neg he]
    simp -implicitDefEqProofs only [evs, reduceIte, rdRes, rdTT, rdTy, rdLT, Res.un, TT.un, Ty.un, LT.un, Leaf.un, Leaf.plain, LT.plain, evh, List.replicate, splice, LT.pack, Leaf.pack, Nat.reduceAdd, Nat.reduceSub, Nat.reduceLeDiff, Nat.reduceLT, Nat.reduceEqDiff, LT.lo, Leaf.lo, rdRow_a2]
end Go.Proofs.Ytbcpdecgfdlaaaa
/- share.Vat and that of the reference; the law ShareLots. Conditions: none. -/
namespace Go.Proofs.Ytbcpdecgfdlaaaa
open Go Go.Proofs.Ytbcpdecgfdlaaaa.Ev
set_option linter.unusedVariables false
set_option linter.unusedSimpArgs false
set_option maxRecDepth 100000
set_option maxHeartbeats 4000000
theorem joinL_bound2 (xs ys : List (Int × Int)) (B C : Int) (hB : 0 ≤ B) (hC : 0 ≤ C) : (∀ x ∈ xs, 0 ≤ x.2 ∧ x.2 ≤ B) → (∀ x ∈ ys, 0 ≤ x.2 ∧ x.2 ≤ C) → ∀ x ∈ joinL xs ys, 0 ≤ x.2 ∧ x.2 ≤ B + C := by
  refine joinL_cases (P := fun xs ys => (∀ x ∈ xs, 0 ≤ x.2 ∧ x.2 ≤ B) → (∀ x ∈ ys, 0 ≤ x.2 ∧ x.2 ≤ C) → ∀ x ∈ joinL xs ys, 0 ≤ x.2 ∧ x.2 ≤ B + C) (fun ys h1 h2 p hp => by rw [nil_joinL] at hp; have := h2 p hp; omega) (fun xs h1 h2 p hp => by rw [joinL_nil] at hp; have := h1 p hp; omega) (fun x xs y ys h ih h1 h2 p hp => ?_) (fun x xs y ys h ih h1 h2 p hp => ?_) (fun x xs y ys h ih h1 h2 p hp => ?_) _ xs ys (Nat.le_refl _)
  · rw [joinL_lt h] at hp
    rcases List.mem_cons.1 hp with rfl | hp
    · have := h1 p (by simp); omega
    · exact ih (fun z hz => h1 z (by simp [hz])) h2 p hp
  · rw [joinL_gt h] at hp
    rcases List.mem_cons.1 hp with rfl | hp
    · have := h2 p (by simp); omega
    · exact ih h1 (fun z hz => h2 z (by simp [hz])) p hp
  · rw [joinL_eq h] at hp
    rcases List.mem_cons.1 hp with rfl | hp
    · have := h1 x (by simp); have := h2 y (by simp); simp only; omega
    · exact ih (fun z hz => h1 z (by simp [hz])) (fun z hz => h2 z (by simp [hz])) p hp
/-- All shares, joined; the sum of the liquids. -/
def joinAll (l : List LotT) : List (Int × Int) := l.foldl (fun acc x => joinL acc x.2.2.2) []
def liqs (l : List LotT) : List (Int × Int) := l.map fun x => (x.2.1, x.2.2.1)
theorem joinAll_snoc {l : List LotT} {i : Nat} (h : i < l.length) : joinAll (l.take (i + 1)) = joinL (joinAll (l.take i)) (atL l i).2.2.2 := by
  obtain ⟨hi, he⟩ := List.getElem?_eq_some_iff.1 (atL_some h)
  unfold joinAll
  rw [← List.take_append_getElem hi, he, List.foldl_append]
  rfl
theorem liqs_snoc {l : List LotT} {i : Nat} (h : i < l.length) : sumL (liqs (l.take (i + 1))) = ((sumL (liqs (l.take i))).1 + (atL l i).2.1, (sumL (liqs (l.take i))).2 + (atL l i).2.2.1) := by
  have hx : (liqs l)[i]? = some ((atL l i).2.1, (atL l i).2.2.1) := by unfold liqs; rw [List.getElem?_map, atL_some h]; rfl
  have := sumL_take hx
  unfold liqs at this ⊢
  rw [List.map_take, List.map_take, this]
/-- What holds of some right lots. -/
structure RightL (l : List LotT) : Prop where
  len : l.length ≤ 32
  all : ∀ x ∈ l, isPlain (x.2.1, x.2.2.1) = true ∧ x.2.2.1 ≠ 0 ∧ shareCheck x.2.2.2 = 0 ∧ sumA x.2.2.2 = x.2.1
theorem rightL_of {l : List LotT} (h : lotErr l = 0) : RightL l := ⟨(lotErr_right h).1, fun x hx => oneOf_right (lotErr_mem h x hx).2⟩
theorem RightL.take {l : List LotT} (h : RightL l) (i : Nat) : RightL (l.take i) := ⟨by have := h.len; rw [List.length_take]; omega, fun x hx => h.all x (List.mem_of_mem_take hx)⟩
theorem joinAll_facts {l : List LotT} (h : RightL l) : ∀ i, i ≤ l.length → SortedF (joinAll (l.take i)) ∧ (joinAll (l.take i)).length ≤ 32 * i ∧ (∀ x ∈ joinAll (l.take i), 0 ≤ x.2 ∧ x.2 ≤ i * 10737418240000) ∧ sumA (joinAll (l.take i)) = (sumL (liqs (l.take i))).1
  | 0, _ => by
    have e : joinAll (l.take 0) = [] := by simp [joinAll]
    rw [e]
    exact ⟨List.Pairwise.nil, by simp, fun x hx => (by cases hx), by simp [sumA, sumL, liqs]⟩
  | i + 1, hi => by
    obtain ⟨k1, k2, k3, k4⟩ := joinAll_facts h i (by omega)
    obtain ⟨a1, a2, a3, a4⟩ := h.all _ (atL_mem (show i < l.length by omega))
    obtain ⟨b1, b2, b3, b4⟩ := shareCheck_ok a3
    rw [joinAll_snoc (by omega), liqs_snoc (by omega)]
    have hlen := joinL_length (joinAll (l.take i)) (atL l i).2.2.2
    refine ⟨joinL_sorted _ _ k1 (shareCheck_sorted a3), by omega, fun x hx => ?_, by rw [joinL_sum, k4, a4]⟩
    have := joinL_bound2 _ _ (i * 10737418240000) 10737418240000 (by omega) (by omega) k3 (okS_bound' b3) x hx
    omega
theorem liqs_bound {l : List LotT} (h : RightL l) (i : Nat) (hi : i ≤ l.length) : 0 ≤ (sumL (liqs (l.take i))).1 ∧ (sumL (liqs (l.take i))).1 ≤ i * 10737418240000 ∧ 0 ≤ (sumL (liqs (l.take i))).2 ∧ (sumL (liqs (l.take i))).2 ≤ i * 128849018880000 := by
  have := sumL_bound (xs := liqs (l.take i)) (fun x hx => by
    obtain ⟨y, hy, rfl⟩ := List.mem_map.1 hx
    exact ((h.take i).all y hy).1)
  have e : (liqs (l.take i)).length = i := by unfold liqs; rw [List.length_map, List.length_take]; omega
  rw [e] at this
  exact this
/-- A slice that holds shares: of no elements at first. -/
def ShS (S : SV) (J : List (Int × Int)) : Prop := (S = ⟨.nil, 0, 0, false⟩ ∧ J = []) ∨ S = rowSV true j2 J
theorem ShS.read {S : SV} {J : List (Int × Int)} {lp : Bool} {h : H} (hs : ShS S J) : rdRow lp h [.int .i64, .int .i64] S = some J := by
  rcases hs with ⟨rfl, rfl⟩ | rfl
  · exact rdRow_nil
  · exact rdRow_res rfl
theorem ShS.slen {S : SV} {J : List (Int × Int)} (hs : ShS S J) : S.len = J.length := by
  rcases hs with ⟨rfl, rfl⟩ | rfl <;> rfl
theorem wr_cL {sl : List Slot} {id : Nat} {x : Int × Int × Int × SV} (h : sl[id]? = some (cL x)) :
    (∀ s : SV, H.wrs (hL sl) (.hp id 4 3) [.slice s.a s.len s.cap s.tail] = some (hL (sl.set id (cL (x.1, x.2.1, x.2.2.1, s))))) ∧ (∀ a, H.wrs (hL sl) (.hp id 4 1) [.int .i64 a] = some (hL (sl.set id (cL (x.1, a, x.2.2.1, x.2.2.2))))) ∧ (∀ m, H.wrs (hL sl) (.hp id 4 2) [.int .i64 m] = some (hL (sl.set id (cL (x.1, x.2.1, m, x.2.2.2))))) := by
  refine ⟨fun s => ?_, fun a => ?_, fun m => ?_⟩ <;> (rw [wrs_own (g := 4) h rfl (by simp)]; rfl)
def vatOf (l : List LotT) (n : Int) : LotT × Int :=
  if lotErr l = 0 then (if okId n = true then (if 32 < (joinAll l).length then ((0, 0, 0, []), 12) else if isPlain (sumL (liqs l)) = true then ((n, (sumL (liqs l)).1, (sumL (liqs l)).2, joinAll l), 0) else ((0, 0, 0, []), 15)) else ((0, 0, 0, []), 2)) else ((0, 0, 0, []), 1)
abbrev nilL : Int × Int × Int × SV := (0, 0, 0, ⟨.nil, 0, 0, false⟩)
theorem rdRow_argL {f : Bool} {h : H} {l : List LotT} : rdRow true h [.int .i64, .int .i64, .int .i64, .row [.int .i64, .int .i64]] (rowSV f [.int .i64, .int .i64, .int .i64, .row [.int .i64, .int .i64]] l) = some l := rdRow_args rfl
theorem vat_loop {l : List LotT} {n : Int} (hr : RightL l) : ∃ sl S, iter FUEL (share_Vat.loop1 (rowSV false jL l) (hL [cL nilL])) (0, hL [cL nilL, cL (n, 0, 0, ⟨.nil, 0, 0, false⟩)]) = some (.ex0 (), hL sl) ∧ sl[0]? = some (cL nilL) ∧ sl[1]? = some (cL (n, (sumL (liqs l)).1, (sumL (liqs l)).2, S)) ∧ ShS S (joinAll l) := by
  have hlen := hr.len
  obtain ⟨x, h1, sl, S, rfl, h2⟩ := iter_upto (f := share_Vat.loop1 (rowSV false jL l) (hL [cL nilL])) (fun i st => ∃ sl S, st = ((i : Int), hL sl) ∧ sl[0]? = some (cL nilL) ∧ sl[1]? = some (cL (n, (sumL (liqs (l.take i))).1, (sumL (liqs (l.take i))).2, S)) ∧ ShS S (joinAll (l.take i)))
    (fun x => ∃ sl S, x = (.ex0 (), hL sl) ∧ sl[0]? = some (cL nilL) ∧ sl[1]? = some (cL (n, (sumL (liqs l)).1, (sumL (liqs l)).2, S)) ∧ ShS S (joinAll l)) l.length (fun i st hi hst => by
      obtain ⟨sl, S, rfl, e0, e1, hS⟩ := hst
      have hg1 : 0 ≤ (i : Int) ∧ (i : Int) < (l.length : Int) := by omega
      have hx := atL_some hi
      obtain ⟨a1, a2, a3, a4⟩ := hr.all _ (atL_mem hi)
      obtain ⟨b1, b2, b3, b4⟩ := shareCheck_ok a3
      obtain ⟨j1, j2', j3, j4⟩ := joinAll_facts hr i (by omega)
      have lb := liqs_bound hr i (by omega)
      have hb := isPlain_iff.1 a1
      simp only at hb
      have hl1 := (List.getElem?_eq_some_iff.1 e1).1
      have hja := joinAll_snoc hi
      have hls := liqs_snoc hi
      generalize atL l i = x at *
      obtain ⟨d, a, m, xs⟩ := x
      simp only at a1 a2 a3 a4 b1 b2 b3 b4 hb hja hls
      generalize hA : (sumL (liqs (l.take i))).1 = A at *
      generalize hM : (sumL (liqs (l.take i))).2 = M at *
      generalize hJ : joinAll (l.take i) = J at *
      have e0' : (sl ++ [cL (d, a, m, rowSV false j2 xs)])[0]? = some (cL nilL) := by rw [List.getElem?_append_left (by omega), e0]
      have e1' : (sl ++ [cL (d, a, m, rowSV false j2 xs)])[1]? = some (cL (n, A, M, S)) := by rw [List.getElem?_append_left hl1, e1]
      have e2' : (sl ++ [cL (d, a, m, rowSV false j2 xs)])[sl.length]? = some (cL (d, a, m, rowSV false j2 xs)) := by simp
      have nw := new_cL (sl := sl) (x := (d, a, m, rowSV false j2 xs))
      have r1 := rd_cL e1'
      have r2 := rd_cL e2'
      have w1 := (wr_cL e1').1 (rowSV true j2 (joinL J xs))
      generalize hT : sl ++ [cL (d, a, m, rowSV false j2 xs)] = T at *
      have hTl : 1 < T.length := (List.getElem?_eq_some_iff.1 e1').1
      have hTl2 : sl.length < T.length := (List.getElem?_eq_some_iff.1 e2').1
      have f1 : (T.set 1 (cL (n, A, M, rowSV true j2 (joinL J xs))))[1]? = some (cL (n, A, M, rowSV true j2 (joinL J xs))) := by rw [List.getElem?_set_self hTl]
      have f2 : (T.set 1 (cL (n, A, M, rowSV true j2 (joinL J xs))))[sl.length]? = some (cL (d, a, m, rowSV false j2 xs)) := by rw [List.getElem?_set_ne (by omega), e2']
      have q1 := rd_cL f1
      have q2 := rd_cL f2
      have w2 := (wr_cL f1).2.1 (A + a)
      rw [List.set_set] at w2
      have g1 : (T.set 1 (cL (n, A + a, M, rowSV true j2 (joinL J xs))))[1]? = some (cL (n, A + a, M, rowSV true j2 (joinL J xs))) := by rw [List.getElem?_set_self hTl]
      have w3 := (wr_cL g1).2.2 (M + m)
      rw [List.set_set] at w3
      refine ⟨(((i + 1 : Nat) : Int), hL (T.set 1 (cL (n, A + a, M + m, rowSV true j2 (joinL J xs))))), ?_, _, rowSV true j2 (joinL J xs), rfl, by rw [List.getElem?_set_ne (by omega), e0'], ?_, .inr ?_⟩
      · unfold share_Vat.loop1
        simp only [cL, rowSV_len, rowSV_cap, rowSV_tail] at nw r1 r2 w1 w2 w3 q1 q2 hT
        simp -implicitDefEqProofs only [Int.toNat_natCast, rowSV_len, guardO_pos hg1]
        rw [decide_eq_true hg1.2, cond_true, rd_lot hx]
        simp -implicitDefEqProofs only [evs, reduceIte, rdRes, rdTT, rdTy, rdLT, Res.un, TT.un, Ty.un, LT.un, Leaf.un, Leaf.plain, LT.plain, hL_new, hL_next, List.length_cons, List.length_nil, Nat.zero_add]
        rw [nw]
        simp -implicitDefEqProofs only [evs, reduceIte, rdRes, rdTT, rdTy, rdLT, Res.un, TT.un, Ty.un, LT.un, Leaf.un, Leaf.plain, LT.plain]
        rw [r1.2.2.2]
        simp -implicitDefEqProofs only [evs, reduceIte, rdRes, rdTT, rdTy, rdLT, Res.un, TT.un, Ty.un, LT.un, Leaf.un, Leaf.plain, LT.plain]
        rw [r2.2.2.2]
        simp -implicitDefEqProofs only [evs, reduceIte, rdRes, rdTT, rdTy, rdLT, Res.un, TT.un, Ty.un, LT.un, Leaf.un, Leaf.plain, LT.plain]
        rw [hS.read]
        simp -implicitDefEqProofs only [evs, reduceIte, rdRes, rdTT, rdTy, rdLT, Res.un, TT.un, Ty.un, LT.un, Leaf.un, Leaf.plain, LT.plain]
        rw [union_ok J xs (fun x hx => by have := j3 x hx; omega) (okS_bound b3) (by omega) j1 (shareCheck_sorted a3)]
        simp -implicitDefEqProofs only [evs, reduceIte, rdRes, rdTT, rdTy, rdLT, Res.un, TT.un, Ty.un, LT.un, Leaf.un, Leaf.plain, LT.plain]
        rw [w1]
        simp -implicitDefEqProofs only [evs, reduceIte, rdRes, rdTT, rdTy, rdLT, Res.un, TT.un, Ty.un, LT.un, Leaf.un, Leaf.plain, LT.plain]
        rw [q1.2.1]
        simp -implicitDefEqProofs only [evs, reduceIte, rdRes, rdTT, rdTy, rdLT, Res.un, TT.un, Ty.un, LT.un, Leaf.un, Leaf.plain, LT.plain]
        rw [q2.2.1]
        simp -implicitDefEqProofs only [evs, reduceIte, rdRes, rdTT, rdTy, rdLT, Res.un, TT.un, Ty.un, LT.un, Leaf.un, Leaf.plain, LT.plain]
        rw [q1.2.2.1]
        simp -implicitDefEqProofs only [evs, reduceIte, rdRes, rdTT, rdTy, rdLT, Res.un, TT.un, Ty.un, LT.un, Leaf.un, Leaf.plain, LT.plain]
        rw [q2.2.2.1]
        simp -implicitDefEqProofs only [evs, reduceIte, rdRes, rdTT, rdTy, rdLT, Res.un, TT.un, Ty.un, LT.un, Leaf.un, Leaf.plain, LT.plain]
        rw [i64_in (A + a) (by omega), i64_in (M + m) (by omega), w2]
        simp -implicitDefEqProofs only [evs, reduceIte, rdRes, rdTT, rdTy, rdLT, Res.un, TT.un, Ty.un, LT.un, Leaf.un, Leaf.plain, LT.plain]
        rw [w3]
        simp -implicitDefEqProofs only [evs, reduceIte, rdRes, rdTT, rdTy, rdLT, Res.un, TT.un, Ty.un, LT.un, Leaf.un, Leaf.plain, LT.plain]
        rw [guardO_pos (apart_hp (by omega)), i64_succ (by omega)]
        rfl
      · rw [List.getElem?_set_self hTl, hls]
      · rw [hja]) (fun st hst => by
      obtain ⟨sl, S, rfl, e0, e1, hS⟩ := hst
      rw [List.take_length] at e1 hS
      refine ⟨_, ?_, sl, S, rfl, e0, e1, hS⟩
      unfold share_Vat.loop1
      simp -implicitDefEqProofs only [rowSV_len]
      rw [decide_eq_false (by omega), cond_false]) FUEL 0 (0, hL [cL nilL, cL (n, 0, 0, ⟨.nil, 0, 0, false⟩)]) (by omega) ⟨_, _, rfl, rfl, rfl, .inl ⟨rfl, by simp [joinAll]⟩⟩ (by have := fuel_gt (n := l.length) (by omega); omega)
  exact ⟨sl, S, h1, h2⟩
theorem Vat_ok (l : List LotT) (n : Int) (hl : l.length < 2 ^ 62) : share_VatP l n = some (vatOf l n) := by
  obtain ⟨j, hj⟩ := LCheck_ok l hl
  unfold share_VatP share_Vat vatOf
  simp -implicitDefEqProofs only [evs, reduceIte, rdRes, rdTT, rdTy, rdLT, Res.un, TT.un, Ty.un, LT.un, Leaf.un, Leaf.plain, LT.plain, hL_empty, hL_new, hL_next, List.nil_append, List.length_nil, List.length_cons, Nat.zero_add, List.cons_append, rdRow_argL]
  rw [hj]
  simp -implicitDefEqProofs only [evs, reduceIte, rdRes, rdTT, rdTy, rdLT, Res.un, TT.un, Ty.un, LT.un, Leaf.un, Leaf.plain, LT.plain]
  have z0 : [cL nilL][0]? = some (cL nilL) := rfl
  have zw := wrs_cL (y := nilL) z0
  have zr := rds_cL z0
  simp only [cL, List.set_cons_zero] at zw zr
  by_cases he : lotErr l = 0
  · rw [decide_eq_true he, if_pos he]
    simp -implicitDefEqProofs only [evs, reduceIte, rdRes, rdTT, rdTy, rdLT, Res.un, TT.un, Ty.un, LT.un, Leaf.un, Leaf.plain, LT.plain]
    rw [Sid_ok]
    simp -implicitDefEqProofs only [evs, reduceIte, rdRes, rdTT, rdTy, rdLT, Res.un, TT.un, Ty.un, LT.un, Leaf.un, Leaf.plain, LT.plain]
    cases hid : okId n with
    | false =>
      simp -implicitDefEqProofs only [evs, reduceIte, rdRes, rdTT, rdTy, rdLT, Res.un, TT.un, Ty.un, LT.un, Leaf.un, Leaf.plain, LT.plain, Bool.false_eq_true]
      rw [zw]
      simp -implicitDefEqProofs only [evs, reduceIte, rdRes, rdTT, rdTy, rdLT, Res.un, TT.un, Ty.un, LT.un, Leaf.un, Leaf.plain, LT.plain]
      rw [zr]
      simp -implicitDefEqProofs only [evs, reduceIte, rdRes, rdTT, rdTy, rdLT, Res.un, TT.un, Ty.un, LT.un, Leaf.un, Leaf.plain, LT.plain]
    | true =>
      simp -implicitDefEqProofs only [evs, reduceIte, rdRes, rdTT, rdTy, rdLT, Res.un, TT.un, Ty.un, LT.un, Leaf.un, Leaf.plain, LT.plain, eq_self]
      have nw := new_cL (sl := [cL nilL]) (x := (n, 0, 0, ⟨.nil, 0, 0, false⟩))
      simp only [cL, List.cons_append, List.nil_append, List.length_cons, List.length_nil, Nat.zero_add] at nw
      rw [nw]
      simp -implicitDefEqProofs only [evs, reduceIte, rdRes, rdTT, rdTy, rdLT, Res.un, TT.un, Ty.un, LT.un, Leaf.un, Leaf.plain, LT.plain]
      obtain ⟨sl, S, hloop, e0, e1, hS⟩ := vat_loop (n := n) (rightL_of he)
      simp only [cL] at hloop
      rw [hloop]
      simp -implicitDefEqProofs only [evs, reduceIte, rdRes, rdTT, rdTy, rdLT, Res.un, TT.un, Ty.un, LT.un, Leaf.un, Leaf.plain, LT.plain]
      rw [rdl_cL e1]
      simp -implicitDefEqProofs only [evs, reduceIte, rdRes, rdTT, rdTy, rdLT, Res.un, TT.un, Ty.un, LT.un, Leaf.un, Leaf.plain, LT.plain, rdRow_one2]
      have hb := liqs_bound (rightL_of he) l.length (Nat.le_refl _)
      rw [List.take_length] at hb
      rw [Sum_ok _ (by simp)]
      generalize hT : sumL (liqs l) = tot at *
      obtain ⟨A, M⟩ := tot
      simp only at hb e1
      have hsum : sumOf [(A, M)] = if isPlain (A, M) = true then ((A, M), 0) else ((0, 0), 1) := by
        have hs : sumL [(A, M)] = (A, M) := by simp [sumL]
        unfold sumOf
        rw [if_neg (by simp), hs]
        cases h : isPlain (A, M) <;> simp [h]
      rw [hsum]
      have nw2 : ∀ y : Int × Int, H.wrs (hL (sl ++ [Slot.own [V.int .i64 0, V.int .i64 0] 2])) (.hp sl.length 2 0) [.int .i64 y.1, .int .i64 y.2] = some (hL (sl ++ [c2 y])) := fun y => new_c2
      have e0' : ∀ y : Int × Int, (sl ++ [c2 y])[0]? = some (cL nilL) := fun y => by rw [List.getElem?_append_left (List.getElem?_eq_some_iff.1 e0).1, e0]
      have e1' : ∀ y : Int × Int, (sl ++ [c2 y])[1]? = some (cL (n, A, M, S)) := fun y => by rw [List.getElem?_append_left (List.getElem?_eq_some_iff.1 e1).1, e1]
      have hl0 : ∀ y : Int × Int, 0 < (sl ++ [c2 y]).length := fun y => by simp
      have fin : ∀ (y : Int × Int) (x : Int × Int × Int × SV), H.wrs (hL (sl ++ [c2 y])) (.hp 0 4 0) [.int .i64 x.1, .int .i64 x.2.1, .int .i64 x.2.2.1, .slice x.2.2.2.a x.2.2.2.len x.2.2.2.cap x.2.2.2.tail] = some (hL ((sl ++ [c2 y]).set 0 (cL x))) ∧ rdT (.agg [.int .i64, .int .i64, .int .i64, .slice]) (hL ((sl ++ [c2 y]).set 0 (cL x))) (.hp 0 4 0) = some x := fun y x => ⟨wrs_cL (e0' y), rds_cL (by rw [List.getElem?_set_self (hl0 y)])⟩
      have hSl := hS.slen
      by_cases hp : isPlain (A, M) = true
      · rw [if_pos hp]
        simp -implicitDefEqProofs only [evs, reduceIte, rdRes, rdTT, rdTy, rdLT, Res.un, TT.un, Ty.un, LT.un, Leaf.un, Leaf.plain, LT.plain, hL_new, hL_next]
        rw [nw2 (A, M)]
        simp -implicitDefEqProofs only [evs, reduceIte, rdRes, rdTT, rdTy, rdLT, Res.un, TT.un, Ty.un, LT.un, Leaf.un, Leaf.plain, LT.plain]
        rw [(rd_cL (e1' _)).2.2.2]
        simp -implicitDefEqProofs only [evs, reduceIte, rdRes, rdTT, rdTy, rdLT, Res.un, TT.un, Ty.un, LT.un, Leaf.un, Leaf.plain, LT.plain, hSl]
        by_cases h32 : 32 < (joinAll l).length
        · rw [decide_eq_true (show (32 : Int) < ((joinAll l).length : Int) by omega), if_pos h32]
          simp -implicitDefEqProofs only [evs, reduceIte, rdRes, rdTT, rdTy, rdLT, Res.un, TT.un, Ty.un, LT.un, Leaf.un, Leaf.plain, LT.plain]
          rw [(fin _ nilL).1]
          simp -implicitDefEqProofs only [evs, reduceIte, rdRes, rdTT, rdTy, rdLT, Res.un, TT.un, Ty.un, LT.un, Leaf.un, Leaf.plain, LT.plain]
          rw [(fin _ nilL).2]
          simp -implicitDefEqProofs only [evs, reduceIte, rdRes, rdTT, rdTy, rdLT, Res.un, TT.un, Ty.un, LT.un, Leaf.un, Leaf.plain, LT.plain]
        · rw [decide_eq_false (show ¬ (32 : Int) < ((joinAll l).length : Int) by omega), if_neg h32, if_pos hp]
          simp -implicitDefEqProofs only [evs, reduceIte, rdRes, rdTT, rdTy, rdLT, Res.un, TT.un, Ty.un, LT.un, Leaf.un, Leaf.plain, LT.plain, eq_self, decide_true]
          rw [rds_cL (e1' _)]
          simp -implicitDefEqProofs only [evs, reduceIte, rdRes, rdTT, rdTy, rdLT, Res.un, TT.un, Ty.un, LT.un, Leaf.un, Leaf.plain, LT.plain]
          rw [(fin _ (n, A, M, S)).1]
          simp -implicitDefEqProofs only [evs, reduceIte, rdRes, rdTT, rdTy, rdLT, Res.un, TT.un, Ty.un, LT.un, Leaf.un, Leaf.plain, LT.plain]
          rw [(fin _ (n, A, M, S)).2]
          simp -implicitDefEqProofs only [evs, reduceIte, rdRes, rdTT, rdTy, rdLT, Res.un, TT.un, Ty.un, LT.un, Leaf.un, Leaf.plain, LT.plain]
          rw [hS.read]
          simp -implicitDefEqProofs only [evs, reduceIte, rdRes, rdTT, rdTy, rdLT, Res.un, TT.un, Ty.un, LT.un, Leaf.un, Leaf.plain, LT.plain]
      · rw [if_neg hp]
        simp -implicitDefEqProofs only [evs, reduceIte, rdRes, rdTT, rdTy, rdLT, Res.un, TT.un, Ty.un, LT.un, Leaf.un, Leaf.plain, LT.plain, hL_new, hL_next]
        rw [nw2 (0, 0)]
        simp -implicitDefEqProofs only [evs, reduceIte, rdRes, rdTT, rdTy, rdLT, Res.un, TT.un, Ty.un, LT.un, Leaf.un, Leaf.plain, LT.plain]
        rw [(rd_cL (e1' _)).2.2.2]
        simp -implicitDefEqProofs only [evs, reduceIte, rdRes, rdTT, rdTy, rdLT, Res.un, TT.un, Ty.un, LT.un, Leaf.un, Leaf.plain, LT.plain, hSl]
        by_cases h32 : 32 < (joinAll l).length
        · rw [decide_eq_true (show (32 : Int) < ((joinAll l).length : Int) by omega), if_pos h32]
          simp -implicitDefEqProofs only [evs, reduceIte, rdRes, rdTT, rdTy, rdLT, Res.un, TT.un, Ty.un, LT.un, Leaf.un, Leaf.plain, LT.plain]
          rw [(fin _ nilL).1]
          simp -implicitDefEqProofs only [evs, reduceIte, rdRes, rdTT, rdTy, rdLT, Res.un, TT.un, Ty.un, LT.un, Leaf.un, Leaf.plain, LT.plain]
          rw [(fin _ nilL).2]
          simp -implicitDefEqProofs only [evs, reduceIte, rdRes, rdTT, rdTy, rdLT, Res.un, TT.un, Ty.un, LT.un, Leaf.un, Leaf.plain, LT.plain]
        · rw [decide_eq_false (show ¬ (32 : Int) < ((joinAll l).length : Int) by omega), if_neg h32, if_neg hp, decide_eq_false (show ¬ (1 : Int) = 0 by omega)]
          simp -implicitDefEqProofs only [evs, reduceIte, rdRes, rdTT, rdTy, rdLT, Res.un, TT.un, Ty.un, LT.un, Leaf.un, Leaf.plain, LT.plain]
          rw [(fin _ nilL).1]
          simp -implicitDefEqProofs only [evs, reduceIte, rdRes, rdTT, rdTy, rdLT, Res.un, TT.un, Ty.un, LT.un, Leaf.un, Leaf.plain, LT.plain]
          rw [(fin _ nilL).2]
          simp -implicitDefEqProofs only [evs, reduceIte, rdRes, rdTT, rdTy, rdLT, Res.un, TT.un, Ty.un, LT.un, Leaf.un, Leaf.plain, LT.plain]
  · rw [decide_eq_false he, if_neg he]
    simp -implicitDefEqProofs only [evs, reduceIte, rdRes, rdTT, rdTy, rdLT, Res.un, TT.un, Ty.un, LT.un, Leaf.un, Leaf.plain, LT.plain]
    rw [zw]
    simp -implicitDefEqProofs only [evs, reduceIte, rdRes, rdTT, rdTy, rdLT, Res.un, TT.un, Ty.un, LT.un, Leaf.un, Leaf.plain, LT.plain]
    rw [zr]
    simp -implicitDefEqProofs only [evs, reduceIte, rdRes, rdTT, rdTy, rdLT, Res.un, TT.un, Ty.un, LT.un, Leaf.un, Leaf.plain, LT.plain]
end Go.Proofs.Ytbcpdecgfdlaaaa
/- Vat of the reference; the law ShareLots in plain numbers. Conditions: none. -/
namespace Go.Proofs.Ytbcpdecgfdlaaaa
open Go Go.Proofs.Ytbcpdecgfdlaaaa.Ev
set_option linter.unusedVariables false
set_option linter.unusedSimpArgs false
set_option maxRecDepth 100000
set_option maxHeartbeats 4000000
theorem SameLot_ok (x y : LotT) (hl : x.2.2.2.length < 2 ^ 63) : spileref22_SameLotP x y = some (decide (x = y)) := by
  obtain ⟨d, a, m, xs⟩ := x
  obtain ⟨d', a', m', ys⟩ := y
  simp only at hl
  unfold spileref22_SameLotP spileref22_SameLot
  simp -implicitDefEqProofs only [evs, reduceIte, rdRes, rdTT, rdTy, rdLT, Res.un, TT.un, Ty.un, LT.un, Leaf.un, Leaf.plain, LT.plain, evh, List.replicate, splice, LT.pack, Leaf.pack, Nat.reduceAdd, Nat.reduceSub, Nat.reduceLeDiff, Nat.reduceLT, Nat.reduceEqDiff, LT.lo, Leaf.lo, rdRow_a2]
  by_cases h1 : d = d'
  · rw [decide_eq_true h1]
    simp -implicitDefEqProofs only [evs, reduceIte, rdRes, rdTT, rdTy, rdLT, Res.un, TT.un, Ty.un, LT.un, Leaf.un, Leaf.plain, LT.plain, evh, List.replicate, splice, LT.pack, Leaf.pack, Nat.reduceAdd, Nat.reduceSub, Nat.reduceLeDiff, Nat.reduceLT, Nat.reduceEqDiff, LT.lo, Leaf.lo, rdRow_a2]
    by_cases h2 : a = a'
    · rw [decide_eq_true h2]
      by_cases h3 : m = m'
      · rw [decide_eq_true h3]
        simp -implicitDefEqProofs only [evs, reduceIte, rdRes, rdTT, rdTy, rdLT, Res.un, TT.un, Ty.un, LT.un, Leaf.un, Leaf.plain, LT.plain, evh, List.replicate, splice, LT.pack, Leaf.pack, Nat.reduceAdd, Nat.reduceSub, Nat.reduceLeDiff, Nat.reduceLT, Nat.reduceEqDiff, LT.lo, Leaf.lo, rdRow_a2]
        rw [same23_ok xs ys hl]
        simp -implicitDefEqProofs only [evs, reduceIte, rdRes, rdTT, rdTy, rdLT, Res.un, TT.un, Ty.un, LT.un, Leaf.un, Leaf.plain, LT.plain, evh, List.replicate, splice, LT.pack, Leaf.pack, Nat.reduceAdd, Nat.reduceSub, Nat.reduceLeDiff, Nat.reduceLT, Nat.reduceEqDiff, LT.lo, Leaf.lo]
        by_cases h4 : xs = ys
        · rw [decide_eq_true h4, decide_eq_true (by rw [h1, h2, h3, h4])]
        · rw [decide_eq_false h4, decide_eq_false (show ¬ ((d, a, m, xs) : LotT) = (d', a', m', ys) from fun h => h4 (by cases h; rfl))]
      · rw [decide_eq_false h3, decide_eq_false (show ¬ ((d, a, m, xs) : LotT) = (d', a', m', ys) from fun h => h3 (by cases h; rfl))]
        simp -implicitDefEqProofs only [evs, reduceIte, rdRes, rdTT, rdTy, rdLT, Res.un, TT.un, Ty.un, LT.un, Leaf.un, Leaf.plain, LT.plain, evh, List.replicate, splice, LT.pack, Leaf.pack, Nat.reduceAdd, Nat.reduceSub, Nat.reduceLeDiff, Nat.reduceLT, Nat.reduceEqDiff, LT.lo, Leaf.lo]
    · rw [decide_eq_false h2, decide_eq_false (show ¬ ((d, a, m, xs) : LotT) = (d', a', m', ys) from fun h => h2 (by cases h; rfl))]
      simp -implicitDefEqProofs only [evs, reduceIte, rdRes, rdTT, rdTy, rdLT, Res.un, TT.un, Ty.un, LT.un, Leaf.un, Leaf.plain, LT.plain, evh, List.replicate, splice, LT.pack, Leaf.pack, Nat.reduceAdd, Nat.reduceSub, Nat.reduceLeDiff, Nat.reduceLT, Nat.reduceEqDiff, LT.lo, Leaf.lo, Bool.false_and]
  · rw [decide_eq_false h1, decide_eq_false (show ¬ ((d, a, m, xs) : LotT) = (d', a', m', ys) from fun h => h1 (by cases h; rfl))]
    simp -implicitDefEqProofs only [evs, reduceIte, rdRes, rdTT, rdTy, rdLT, Res.un, TT.un, Ty.un, LT.un, Leaf.un, Leaf.plain, LT.plain, evh, List.replicate, splice, LT.pack, Leaf.pack, Nat.reduceAdd, Nat.reduceSub, Nat.reduceLeDiff, Nat.reduceLT, Nat.reduceEqDiff, LT.lo, Leaf.lo]
end Go.Proofs.Ytbcpdecgfdlaaaa
/- Lots whose numbers are set anew; the law ShareDraws in plain numbers. Conditions: none. -/
namespace Go.Proofs.Ytbcpdecgfdlaaaa
open Go Go.Proofs.Ytbcpdecgfdlaaaa.Ev
set_option linter.unusedVariables false
set_option linter.unusedSimpArgs false
set_option maxRecDepth 100000
set_option maxHeartbeats 4000000
theorem cells_set0 {v : Int} : ∀ {l : List LotT} {i : Nat}, i < l.length → splice (cellsL jL l) (i * 4) [V.int .i64 v] = cellsL jL (l.set i (v, (atL l i).2))
  | [], _, h => by simp at h
  | x :: l, 0, _ => rfl
  | x :: l, i + 1, h => by
    have hi : i < l.length := by simpa using h
    have ih := cells_set0 (v := v) hi
    have e : atL (x :: l) (i + 1) = atL l i := by simp [atL]
    rw [e, List.set_cons_succ]
    have e2 : ∀ m : List LotT, cellsL jL (x :: m) = LT.lo true jL x ++ cellsL jL m := fun m => by simp [cellsL]
    rw [e2, e2, ← ih, show (i + 1) * 4 = i * 4 + 4 by omega]
    rfl
/-- The numbers of the first lots set anew. -/
def renTo (l : List LotT) (i : Nat) : List LotT := l.mapIdx fun j x => if j < i then ((j : Int) + 1, x.2) else x
theorem renTo_length {l : List LotT} {i : Nat} : (renTo l i).length = l.length := by simp [renTo]
theorem renTo_get {l : List LotT} {i j : Nat} : (renTo l i)[j]? = (l[j]?).map fun x => if j < i then ((j : Int) + 1, x.2) else x := by
  unfold renTo
  rw [List.getElem?_mapIdx]
theorem renTo_zero {l : List LotT} : renTo l 0 = l := List.ext_getElem? fun j => by
  rw [renTo_get]
  cases l[j]? <;> simp
theorem renTo_succ {l : List LotT} {i : Nat} (hi : i < l.length) : (renTo l i).set i ((i : Int) + 1, (atL (renTo l i) i).2) = renTo l (i + 1) := List.ext_getElem? fun j => by
  have hx := atL_some hi
  have h1 : (renTo l i)[i]? = some (atL l i) := by rw [renTo_get, hx]; simp
  have h2 : atL (renTo l i) i = atL l i := by unfold atL at *; rw [h1]; rfl
  rw [h2, renTo_get]
  by_cases h : i = j
  · subst h
    rw [List.getElem?_set_self (by rw [renTo_length]; exact hi), hx]
    simp
  · rw [List.getElem?_set_ne h, renTo_get]
    cases l[j]? with
    | none => rfl
    | some x =>
      simp only [Option.map_some]
      by_cases h3 : j < i
      · rw [if_pos h3, if_pos (by omega)]
      · rw [if_neg h3, if_neg (by omega)]
theorem Acc.nnL {sl : List Slot} {l : List LotT} {s : SV} {o : Option Nat} {i : Nat} (h : Acc sl jL l s o) (hi : i < l.length) : V.nn (V.add s.a (i * 4)) = true := by
  cases o with
  | none => obtain ⟨rfl, _⟩ := h; simp at hi
  | some id => obtain ⟨h1, rfl, h3⟩ := h; rfl
theorem Acc.setId {sl : List Slot} {l : List LotT} {s : SV} {o : Option Nat} {i : Nat} {v : Int} (h : Acc sl jL l s o) (hi : i < l.length) : ∃ sl', H.wrs (hL sl) (V.add (V.add s.a (i * 4)) 0) [.int .i64 v] = some (hL sl') ∧ Acc sl' jL (l.set i (v, (atL l i).2)) s o ∧ sl'.length = sl.length ∧ ∀ j, o ≠ some j → sl'[j]? = sl[j]? := by
  cases o with
  | none => obtain ⟨rfl, _⟩ := h; simp at hi
  | some id =>
    obtain ⟨h1, rfl, h3⟩ := h
    have hid := (List.getElem?_eq_some_iff.1 h3).1
    have hlen : (cellsL jL l).length = l.length * 4 := flat_length (ls := jL) l
    have hm : (i + 1) * 4 ≤ l.length * 4 := Nat.mul_le_mul_right _ hi
    refine ⟨sl.set id (.own (cellsL jL (l.set i (v, (atL l i).2))) 4), ?_, ⟨by simp; omega, ?_, ?_⟩, by simp, fun j hj => ?_⟩
    · simp only [ownSV, V.add, Nat.zero_add, Nat.add_zero]
      show H.wrs (hL sl) (.hp id (l.length * 4) (i * 4)) [.int .i64 v] = _
      rw [wrs_own (g := l.length * 4) h3 hlen (by show i * 4 + 1 ≤ l.length * 4; omega), cells_set0 hi]
      rfl
    · simp only [ownSV, List.length_set]
    · rw [List.getElem?_set_self hid]
      rfl
    · rw [List.getElem?_set_ne (fun e => hj (by rw [e]))]
/-- A loop that sets the numbers anew. -/
theorem ids_loop {l : List LotT} {sl : List Slot} {s : SV} {o : Option Nat} {F : (Int) × H → Option (Stp ((Int) × H) (Flow (Unit) (Bool) × H))} (hacc : Acc sl jL l s o) (hl : l.length < 2 ^ 62)
    (hF : ∀ (i : Nat) (h : H), i < l.length → F ((i : Int), h) = ((H.wrs h (V.add (V.add s.a (i * 4)) 0) [.int .i64 ((i : Int) + 1)]).bind fun h => some (.more (((i + 1 : Nat) : Int), h)))) (hD : ∀ h, F ((l.length : Int), h) = some (.done (.ex0 (), h))) :
    ∃ sl', iter FUEL F (0, hL sl) = some (.ex0 (), hL sl') ∧ Acc sl' jL (renTo l l.length) s o ∧ ∀ j, o ≠ some j → sl'[j]? = sl[j]? := by
  obtain ⟨x, h1, sl', rfl, h2, h3⟩ := iter_upto (f := F) (fun i st => ∃ sl', st = ((i : Int), hL sl') ∧ Acc sl' jL (renTo l i) s o ∧ ∀ j, o ≠ some j → sl'[j]? = sl[j]?)
    (fun x => ∃ sl', x = (.ex0 (), hL sl') ∧ Acc sl' jL (renTo l l.length) s o ∧ ∀ j, o ≠ some j → sl'[j]? = sl[j]?) l.length (fun i st hi hst => by
      obtain ⟨sl', rfl, k1, k2⟩ := hst
      obtain ⟨sl2, j1, j2', j3, j4⟩ := Acc.setId (v := (i : Int) + 1) k1 (show i < (renTo l i).length by rw [renTo_length]; exact hi)
      refine ⟨_, by rw [hF i _ hi, j1]; rfl, sl2, rfl, by rw [← renTo_succ hi]; exact j2', fun j hj => by rw [j4 j hj, k2 j hj]⟩) (fun st hst => by
      obtain ⟨sl', rfl, k1, k2⟩ := hst
      exact ⟨_, hD _, sl', rfl, k1, k2⟩) FUEL 0 (0, hL sl) (by omega) ⟨sl, rfl, by rw [renTo_zero]; exact hacc, fun _ _ => rfl⟩ (by have := fuel_gt (n := l.length) (by omega); omega)
  exact ⟨sl', h1, h2, h3⟩
/-- Lots that are not empty. -/
def keepL (l : List LotT) : List LotT := l.filter fun y => !decide (y.2.2.1 = 0)
theorem keep_two {a b : LotT} : keepL [a, b] = (if a.2.2.1 = 0 then [] else [a]) ++ (if b.2.2.1 = 0 then [] else [b]) := by
  unfold keepL
  by_cases h1 : a.2.2.1 = 0
  · by_cases h2 : b.2.2.1 = 0 <;> simp [h1, h2]
  · by_cases h2 : b.2.2.1 = 0 <;> simp [h1, h2]
abbrev cells2 (a b : LotT) : List V := [.int .i64 a.1, .int .i64 a.2.1, .int .i64 a.2.2.1, .slice (rowSV true j2 a.2.2.2).a a.2.2.2.length a.2.2.2.length true, .int .i64 b.1, .int .i64 b.2.1, .int .i64 b.2.2.1, .slice (rowSV true j2 b.2.2.2).a b.2.2.2.length b.2.2.2.length true]
theorem draws_loop1 {a b : LotT} {sl : List Slot} (ha : (a.2.2.1 = 0 → a.2.2.2 = []) ∧ (a.2.2.1 ≠ 0 → lotErr [a] = 0)) (hb : (b.2.2.1 = 0 → b.2.2.2 = []) ∧ (b.2.2.1 ≠ 0 → lotErr [b] = 0)) :
    ∃ s sl' o, iter FUEL (spilelaw23_ShareDraws.loop1 a.1 a.2.1 a.2.2.1 (rowSV true j2 a.2.2.2) b.1 b.2.1 b.2.2.1 (rowSV true j2 b.2.2.2)) ((⟨.nil, 0, 0, false⟩, 0), hL sl) = some (.ex0 s, hL sl') ∧ Acc sl' jL (keepL [a, b]) s o ∧ (∀ id, o = some id → sl.length ≤ id) ∧ ∀ j, j < sl.length → sl'[j]? = sl[j]? := by
  have round : ∀ (i : Nat) (y : LotT) (s : SV) (sl1 : List Slot) (o : Option Nat) (acc : List LotT), [a, b][i]? = some y → Acc sl1 jL acc s o → acc.length ≤ 2 → sl.length ≤ sl1.length → (∀ id, o = some id → sl.length ≤ id) → (∀ j, j < sl.length → sl1[j]? = sl[j]?) →
      ∃ s' sl2 o', spilelaw23_ShareDraws.loop1 a.1 a.2.1 a.2.2.1 (rowSV true j2 a.2.2.2) b.1 b.2.1 b.2.2.1 (rowSV true j2 b.2.2.2) ((s, (i : Int)), hL sl1) = some (.more ((s', ((i + 1 : Nat) : Int)), hL sl2)) ∧ Acc sl2 jL (acc ++ (if y.2.2.1 = 0 then [] else [y])) s' o' ∧ sl.length ≤ sl2.length ∧ (∀ id, o' = some id → sl.length ≤ id) ∧ (∀ j, j < sl.length → sl2[j]? = sl[j]?) := fun i y s sl1 o acc hy hacc hal hlen ho hsame => by
    have hi : i < 2 := (List.getElem?_eq_some_iff.1 hy).1
    have hyab : (y.2.2.1 = 0 → y.2.2.2 = []) ∧ (y.2.2.1 ≠ 0 → lotErr [y] = 0) := by
      obtain rfl | rfl : i = 0 ∨ i = 1 := by omega
      · cases hy; exact ha
      · cases hy; exact hb
    have hread : rdT (.agg [.int .i64, .int .i64, .int .i64, .slice]) (hL sl1) (.lp true (cells2 a b) (0 + i * 4)) = some (lotSV true y) := by
      obtain rfl | rfl : i = 0 ∨ i = 1 := by omega
      · cases hy; rfl
      · cases hy; rfl
    have hg1 : 0 ≤ (i : Int) ∧ (i : Int) < ((2 : Nat) : Int) := by omega
    have hw : IntKind.wrap .i64 ((i : Int) + 1) = ((i + 1 : Nat) : Int) := i64_succ (by omega)
    have hmore : (sl1 ++ [cL (lotSV true y)])[sl1.length]? = some (cL (lotSV true y)) := by simp
    have nw := new_cL (sl := sl1) (x := lotSV true y)
    have r1 := rd_cL hmore
    have r2 := rds_cL hmore
    have hacc' : Acc (sl1 ++ [cL (lotSV true y)]) jL acc s o := hacc.more
    have hsame' : ∀ j, j < sl.length → (sl1 ++ [cL (lotSV true y)])[j]? = sl[j]? := fun j hj => by rw [List.getElem?_append_left (by omega), hsame j hj]
    obtain ⟨d, al, m, ys⟩ := y
    simp only [cL, lotSV, rowSV_len, rowSV_cap, rowSV_tail] at nw r1 r2 hread hyab
    by_cases hm : m = 0
    · have hys := hyab.1 hm
      subst hm hys
      refine ⟨s, sl1 ++ [cL (lotSV true (d, al, 0, []))], o, ?_, by rw [if_pos rfl, List.append_nil]; exact hacc', by simp; omega, ho, hsame'⟩
      unfold spilelaw23_ShareDraws.loop1
      simp -implicitDefEqProofs only [evs, reduceIte, rdRes, rdTT, rdTy, rdLT, Res.un, TT.un, Ty.un, LT.un, Leaf.un, Leaf.plain, LT.plain, Int.toNat_natCast, guardO_pos hg1]
      rw [decide_eq_true (show (i : Int) < 2 by omega)]
      simp -implicitDefEqProofs only [evs, reduceIte, rdRes, rdTT, rdTy, rdLT, Res.un, TT.un, Ty.un, LT.un, Leaf.un, Leaf.plain, LT.plain, guardO_pos hg1]
      rw [hread]
      simp -implicitDefEqProofs only [evs, reduceIte, rdRes, rdTT, rdTy, rdLT, Res.un, TT.un, Ty.un, LT.un, Leaf.un, Leaf.plain, LT.plain, hL_new, hL_next]
      rw [nw]
      simp -implicitDefEqProofs only [evs, reduceIte, rdRes, rdTT, rdTy, rdLT, Res.un, TT.un, Ty.un, LT.un, Leaf.un, Leaf.plain, LT.plain]
      rw [r1.2.2.1]
      simp -implicitDefEqProofs only [evs, reduceIte, rdRes, rdTT, rdTy, rdLT, Res.un, TT.un, Ty.un, LT.un, Leaf.un, Leaf.plain, LT.plain, eq_self, decide_true]
      rw [r1.2.2.2]
      simp -implicitDefEqProofs only [evs, reduceIte, rdRes, rdTT, rdTy, rdLT, Res.un, TT.un, Ty.un, LT.un, Leaf.un, Leaf.plain, LT.plain, hw]
      rw [decide_eq_true (show ((([] : List (Int × Int)).length : Nat) : Int) = 0 from rfl)]
      simp -implicitDefEqProofs only [evs, reduceIte, rdRes, rdTT, rdTy, rdLT, Res.un, TT.un, Ty.un, LT.un, Leaf.un, Leaf.plain, LT.plain]
      rfl
    · have hys := hyab.2 hm
      obtain ⟨s', sl2, id, k1, k2, k3, k4, k5⟩ := hacc'.append (b := 48) (w := 4) (x := ((d, al, m, ys) : LotT)) (vs := [.int .i64 d, .int .i64 al, .int .i64 m, .slice (rowSV true j2 ys).a ys.length ys.length true]) rfl (by omega) (by omega) (by omega) rfl
      obtain ⟨j, hj⟩ := LCheck_ok [(d, al, m, ys)] (by simp)
      simp only [cL, lotSV, rowSV_len, rowSV_cap, rowSV_tail] at k1
      refine ⟨s', sl2, some id, ?_, by rw [if_neg hm]; exact k2, by rw [List.length_append] at k4; omega, fun id' h' => ?_, fun j hj => ?_⟩
      · unfold spilelaw23_ShareDraws.loop1
        simp -implicitDefEqProofs only [evs, reduceIte, rdRes, rdTT, rdTy, rdLT, Res.un, TT.un, Ty.un, LT.un, Leaf.un, Leaf.plain, LT.plain, Int.toNat_natCast, guardO_pos hg1]
        rw [decide_eq_true (show (i : Int) < 2 by omega)]
        simp -implicitDefEqProofs only [evs, reduceIte, rdRes, rdTT, rdTy, rdLT, Res.un, TT.un, Ty.un, LT.un, Leaf.un, Leaf.plain, LT.plain, guardO_pos hg1]
        rw [hread]
        simp -implicitDefEqProofs only [evs, reduceIte, rdRes, rdTT, rdTy, rdLT, Res.un, TT.un, Ty.un, LT.un, Leaf.un, Leaf.plain, LT.plain, hL_new, hL_next]
        rw [nw]
        simp -implicitDefEqProofs only [evs, reduceIte, rdRes, rdTT, rdTy, rdLT, Res.un, TT.un, Ty.un, LT.un, Leaf.un, Leaf.plain, LT.plain]
        rw [r1.2.2.1]
        simp -implicitDefEqProofs only [evs, reduceIte, rdRes, rdTT, rdTy, rdLT, Res.un, TT.un, Ty.un, LT.un, Leaf.un, Leaf.plain, LT.plain]
        rw [decide_eq_false hm]
        simp -implicitDefEqProofs only [evs, reduceIte, rdRes, rdTT, rdTy, rdLT, Res.un, TT.un, Ty.un, LT.un, Leaf.un, Leaf.plain, LT.plain]
        rw [r2]
        simp -implicitDefEqProofs only [evs, reduceIte, rdRes, rdTT, rdTy, rdLT, Res.un, TT.un, Ty.un, LT.un, Leaf.un, Leaf.plain, LT.plain, rdRow_oneL]
        rw [hj, hys]
        simp -implicitDefEqProofs only [evs, reduceIte, rdRes, rdTT, rdTy, rdLT, Res.un, TT.un, Ty.un, LT.un, Leaf.un, Leaf.plain, LT.plain, eq_self, decide_true]
        rw [k1]
        simp -implicitDefEqProofs only [evs, reduceIte, rdRes, rdTT, rdTy, rdLT, Res.un, TT.un, Ty.un, LT.un, Leaf.un, Leaf.plain, LT.plain, hw]
      · cases h'
        rcases k3 with k3 | ⟨_, k3⟩
        · exact ho _ k3
        · rw [k3, List.length_append]; omega
      · have hno : o ≠ some j := fun e => by have := ho j e; omega
        rw [k5 j hno (by rw [List.length_append]; omega), hsame' j hj]
  obtain ⟨s1, sl1, o1, a1, a2, a3, a4, a5⟩ := round 0 a ⟨.nil, 0, 0, false⟩ sl none [] rfl Acc.nil (by simp) (by omega) (fun _ h => by cases h) (fun _ _ => rfl)
  obtain ⟨s2, sl2, o2, b1, b2, b3, b4, b5⟩ := round 1 b s1 sl1 o1 _ rfl a2 (by simp only [List.nil_append]; split <;> simp) a3 a4 a5
  refine ⟨s2, sl2, o2, iter_from (s0 := ((⟨.nil, 0, 0, false⟩, 0), hL sl)) (fun i => ((pick3 ⟨.nil, 0, 0, false⟩ s1 s2 i, (i : Int)), hL (pick3 sl sl1 sl2 i))) rfl 2 FUEL (fun i hi => ?_) ?_ (fuel_gt (by omega)), ?_, b4, b5⟩
  · obtain rfl | rfl : i = 0 ∨ i = 1 := by omega
    · exact a1
    · exact b1
  · unfold spilelaw23_ShareDraws.loop1
    simp -implicitDefEqProofs only [evs, reduceIte, rdRes, rdTT, rdTy, rdLT, Res.un, TT.un, Ty.un, LT.un, Leaf.un, Leaf.plain, LT.plain]
    rw [decide_eq_false (by omega), cond_false, pick3_2, pick3_2]
  · rw [keep_two]
    rw [List.nil_append] at b2
    exact b2
theorem sum_zero {xs : List (Int × Int)} (h : shareCheck xs = 0) (h0 : sumA xs = 0) : xs = [] := by
  obtain ⟨k1, k2, k3, k4⟩ := shareCheck_ok h
  cases xs with
  | nil => rfl
  | cons x xs =>
    have h1 := okS_iff.1 (k3 x (by simp))
    have h2 := sumA_bound xs fun y hy => by have := okS_iff.1 (k3 y (by simp [hy])); omega
    unfold sumA at h0 h2
    simp only [List.map_cons, List.sum_cons] at h0
    omega
/-- What a draw is. -/
theorem drawL_right {x : LotT} {w n : Int} (h : (drawL x w n).2.2 = 0) : RightL [x] ∧ okId x.1 = true ∧ okId n = true ∧ ∃ D T1 T2, drawL x w n = ((n, D, w, T1), (x.1, x.2.1 - D, x.2.2.1 - w, T2), 0) ∧ drawOf (x.2.1, x.2.2.1) w = ((D, w), (x.2.1 - D, x.2.2.1 - w), 0) ∧
    (0 ≤ w ∧ w ≤ x.2.2.1) ∧ (0 ≤ D ∧ D ≤ x.2.1) ∧ (w = 0 → D = 0) ∧ (w = x.2.2.1 → D = x.2.1) ∧ shareCheck T1 = 0 ∧ shareCheck T2 = 0 ∧ sumA T1 = D ∧ sumA T2 = x.2.1 - D ∧ joinL T1 T2 = x.2.2.2 := by
  unfold drawL at *
  by_cases he : lotErr [x] = 0
  · rw [if_pos he] at *
    by_cases h1 : okId n = true ∧ 0 ≤ w
    · rw [if_pos h1] at *
      by_cases h2 : x.2.2.1 < w
      · rw [if_pos h2] at h; cases h
      · rw [if_neg h2] at *
        obtain ⟨k1, k2, k3, k4, k5, k6, k7⟩ := draw_facts he h1.2 (show w ≤ x.2.2.1 by omega)
        have ht : (takeOf x.2.2.2 (x.2.1 * w / x.2.2.1)).2.2 = 0 := by
          unfold takeOf
          rw [if_pos k1, if_neg (by omega), if_neg (by omega)]
          split <;> rfl
        obtain ⟨t1, t2, t3, ps, t4, t5, t6, t7, t8⟩ := take_law ht
        obtain ⟨b1, b2, b3, b4⟩ := shareCheck_ok k1
        have hsum := withL_sum (restL_under t5)
        have hj := join_whole t5 (shareCheck_sorted t1) fun y hy => by have := okS_iff.1 (b3 y hy); omega
        have hjs := joinL_sum (withL x.2.2.2 ps) (withL x.2.2.2 (restL x.2.2.2 ps))
        rw [hj, withL_sum t5, t6] at hjs
        refine ⟨rightL_of he, k7, h1.1, x.2.1 * w / x.2.2.1, withL x.2.2.2 ps, withL x.2.2.2 (restL x.2.2.2 ps), by rw [t7], ?_, ⟨h1.2, by omega⟩, ⟨k4, k5⟩, fun hw => ?_, fun hw => ?_, withL_right t1 t5, withL_right t1 (restL_under t5), by rw [withL_sum t5, t6], by omega, hj⟩
        · unfold drawOf
          rw [if_pos k2, if_neg (by omega), if_neg (show ¬ x.2.2.1 < w from h2)]
        · rw [hw, Int.mul_zero, Int.zero_ediv]
        · rw [hw, Int.mul_ediv_cancel _ (by omega)]
    · rw [if_neg h1] at h; cases h
  · rw [if_neg he] at h; cases h
theorem drawL_bad {x : LotT} {w n : Int} (h : (drawL x w n).2.2 ≠ 0) : (drawL x w n).1 = (0, 0, 0, []) ∧ (drawL x w n).2.1 = (0, 0, 0, []) := by
  unfold drawL at *
  by_cases he : lotErr [x] = 0
  · rw [if_pos he] at *
    by_cases h1 : okId n = true ∧ 0 ≤ w
    · rw [if_pos h1] at *
      by_cases h2 : x.2.2.1 < w
      · rw [if_pos h2]; exact ⟨rfl, rfl⟩
      · rw [if_neg h2] at h; exact absurd rfl h
    · rw [if_neg h1]; exact ⟨rfl, rfl⟩
  · rw [if_neg he]; exact ⟨rfl, rfl⟩
/-- Vatting lots that are right but for their numbers, numbered anew. -/
theorem vat_renumbered {l : List LotT} {n : Int} (hl : l.length ≤ 32) (h : ∀ x ∈ l, oneOf x = 0) : lotErr (renTo l l.length) = 0 := by
  unfold lotErr
  rw [renTo_length, if_neg (by omega)]
  have hf : ∀ i, i < l.length → lfault (renTo l l.length) i = 0 := fun i hi => by
    have e : ∀ j, j < l.length → atL (renTo l l.length) j = ((j : Int) + 1, (atL l j).2) := fun j hj => by
      have : (renTo l l.length)[j]? = some ((j : Int) + 1, (atL l j).2) := by rw [renTo_get, atL_some hj]; simp [hj]
      unfold atL at *
      rw [this]; rfl
    unfold lfault
    rw [e i hi, if_pos (okId_iff.2 (by simp only; omega)), if_neg (fun k => by
      have k2 := k.2
      rw [e (i - 1) (by omega)] at k2
      simp only at k2
      omega)]
    have := h _ (atL_mem hi)
    unfold oneOf at *
    exact this
  rcases first_cases (lfault (renTo l l.length)) l.length with ⟨_, e⟩ | ⟨m, hm, hne, _⟩
  · exact e
  · exact absurd (hf m hm) hne
theorem joinAll_ren (l : List LotT) (i : Nat) : joinAll (renTo l i) = joinAll l ∧ liqs (renTo l i) = liqs l := by
  have h1 : (renTo l i).map (·.2.2.2) = l.map (·.2.2.2) := List.ext_getElem? fun j => by
    rw [List.getElem?_map, renTo_get, List.getElem?_map]
    cases l[j]? with
    | none => rfl
    | some x => simp only [Option.map_some]; split <;> rfl
  have h2 : ∀ l : List LotT, joinAll l = (l.map (·.2.2.2)).foldl joinL [] := fun l => by unfold joinAll; rw [List.foldl_map]
  refine ⟨by rw [h2, h2, h1], List.ext_getElem? fun j => ?_⟩
  unfold liqs
  rw [List.getElem?_map, renTo_get, List.getElem?_map]
  cases l[j]? with
  | none => rfl
  | some x => simp only [Option.map_some]; split <;> rfl
end Go.Proofs.Ytbcpdecgfdlaaaa
/- The law ShareDraws in plain numbers. Conditions: none. -/
namespace Go.Proofs.Ytbcpdecgfdlaaaa
open Go Go.Proofs.Ytbcpdecgfdlaaaa.Ev
set_option linter.unusedVariables false
set_option linter.unusedSimpArgs false
set_option maxRecDepth 100000
set_option maxHeartbeats 4000000
theorem sv_eta {T : List (Int × Int)} : (⟨(rowSV true [.int .i64, .int .i64] T).a, T.length, T.length, true⟩ : SV) = rowSV true [.int .i64, .int .i64] T := rfl
/-- Both parts of a draw, vatted, are the lot. -/
theorem draw_vat {x : LotT} {w n : Int} {D : Int} {T1 T2 : List (Int × Int)} (hr : RightL [x]) (hid : okId x.1 = true) (hn : okId n = true) (hw : 0 ≤ w ∧ w ≤ x.2.2.1) (hD : 0 ≤ D ∧ D ≤ x.2.1) (h0 : w = 0 → D = 0) (h1 : w = x.2.2.1 → D = x.2.1) (c1 : shareCheck T1 = 0) (c2 : shareCheck T2 = 0) (s1 : sumA T1 = D) (s2 : sumA T2 = x.2.1 - D) (hj : joinL T1 T2 = x.2.2.2) :
    ((w = 0 → T1 = []) ∧ (w ≠ 0 → lotErr [((n, D, w, T1) : LotT)] = 0)) ∧ ((x.2.2.1 - w = 0 → T2 = []) ∧ (x.2.2.1 - w ≠ 0 → lotErr [((x.1, x.2.1 - D, x.2.2.1 - w, T2) : LotT)] = 0)) ∧
      (keepL [((n, D, w, T1) : LotT), (x.1, x.2.1 - D, x.2.2.1 - w, T2)]).length ≤ 2 ∧ vatOf (renTo (keepL [((n, D, w, T1) : LotT), (x.1, x.2.1 - D, x.2.2.1 - w, T2)]) (keepL [((n, D, w, T1) : LotT), (x.1, x.2.1 - D, x.2.2.1 - w, T2)]).length) x.1 = (x, 0) := by
  obtain ⟨a1, a2, a3, a4⟩ := hr.all x (by simp)
  obtain ⟨b1, b2, b3, b4⟩ := shareCheck_ok a3
  have hb := isPlain_iff.1 a1
  simp only at hb
  have o1 : w ≠ 0 → oneOf ((n, D, w, T1) : LotT) = 0 := fun h => oneOf_intro (isPlain_iff.2 (by simp only; omega)) h c1 s1
  have o2 : x.2.2.1 - w ≠ 0 → oneOf ((x.1, x.2.1 - D, x.2.2.1 - w, T2) : LotT) = 0 := fun h => oneOf_intro (isPlain_iff.2 (by simp only; omega)) h c2 s2
  have z1 : w = 0 → T1 = [] := fun h => sum_zero c1 (by rw [s1, h0 h])
  have z2 : x.2.2.1 - w = 0 → T2 = [] := fun h => sum_zero c2 (by rw [s2, h1 (by omega)]; omega)
  refine ⟨⟨z1, fun h => by rw [lotErr_one, if_pos hn, o1 h]⟩, ⟨z2, fun h => by rw [lotErr_one, if_pos hid, o2 h]⟩, by unfold keepL; exact Nat.le_trans (List.length_filter_le ..) (by simp), ?_⟩
  have hall : ∀ y ∈ keepL [((n, D, w, T1) : LotT), (x.1, x.2.1 - D, x.2.2.1 - w, T2)], oneOf y = 0 := fun y hy => by
    unfold keepL at hy
    obtain ⟨k1, k2⟩ := List.mem_filter.1 hy
    rcases List.mem_cons.1 k1 with rfl | k1
    · exact o1 (by simpa using k2)
    · rw [List.mem_singleton] at k1
      subst k1
      exact o2 (by simpa using k2)
  have hJ : joinAll (keepL [((n, D, w, T1) : LotT), (x.1, x.2.1 - D, x.2.2.1 - w, T2)]) = x.2.2.2 ∧ sumL (liqs (keepL [((n, D, w, T1) : LotT), (x.1, x.2.1 - D, x.2.2.1 - w, T2)])) = (x.2.1, x.2.2.1) := by
    rw [keep_two]
    simp only
    by_cases k1 : w = 0
    · rw [if_pos k1, if_neg (show ¬ x.2.2.1 - w = 0 by omega)]
      have e1 := z1 k1
      have e2 := h0 k1
      subst e1
      rw [nil_joinL] at hj
      refine ⟨?_, ?_⟩
      · simp [joinAll, nil_joinL, hj]
      · simp only [List.nil_append, liqs, sumL, List.map_cons, List.map_nil, List.sum_cons, List.sum_nil, Prod.mk.injEq]
        omega
    · rw [if_neg k1]
      by_cases k2 : x.2.2.1 - w = 0
      · rw [if_pos k2]
        have e1 := z2 k2
        have e2 := h1 (by omega)
        subst e1
        rw [joinL_nil] at hj
        refine ⟨?_, ?_⟩
        · simp [joinAll, nil_joinL, hj]
        · simp only [List.append_nil, liqs, sumL, List.map_cons, List.map_nil, List.sum_cons, List.sum_nil, Prod.mk.injEq]
          omega
      · rw [if_neg k2]
        refine ⟨?_, ?_⟩
        · simp [joinAll, nil_joinL, hj]
        · simp only [List.cons_append, List.nil_append, liqs, sumL, List.map_cons, List.map_nil, List.sum_cons, List.sum_nil, Prod.mk.injEq]
          omega
  have hlen : (keepL [((n, D, w, T1) : LotT), (x.1, x.2.1 - D, x.2.2.1 - w, T2)]).length ≤ 32 := by unfold keepL; exact Nat.le_trans (List.length_filter_le ..) (by simp)
  have hren := joinAll_ren (keepL [((n, D, w, T1) : LotT), (x.1, x.2.1 - D, x.2.2.1 - w, T2)]) (keepL [((n, D, w, T1) : LotT), (x.1, x.2.1 - D, x.2.2.1 - w, T2)]).length
  unfold vatOf
  rw [if_pos (vat_renumbered (n := 0) hlen hall), if_pos hid, hren.1, hren.2, hJ.1, hJ.2, if_neg (show ¬ 32 < x.2.2.2.length by omega), if_pos a1]
theorem ShareDraws_ok (x : LotT) (w n : Int) : spilelaw23_ShareDrawsP x w n = some true := by
  obtain ⟨c, hc, hc2⟩ := FewShares_ok x.2.2.2
  unfold spilelaw23_ShareDrawsP spilelaw23_ShareDraws
  obtain ⟨d, a, m, xs⟩ := x
  simp only at hc hc2
  simp -implicitDefEqProofs only [awake23, evs, reduceIte, rdRes, rdTT, rdTy, rdLT, Res.un, TT.un, Ty.un, LT.un, Leaf.un, Leaf.plain, LT.plain, evh, List.replicate, splice, LT.pack, Leaf.pack, Nat.reduceAdd, Nat.reduceSub, Nat.reduceLeDiff, Nat.reduceLT, Nat.reduceEqDiff, LT.lo, Leaf.lo, rdRow_a2]
  rw [hc]
  simp -implicitDefEqProofs only [evs, reduceIte, rdRes, rdTT, rdTy, rdLT, Res.un, TT.un, Ty.un, LT.un, Leaf.un, Leaf.plain, LT.plain, evh, List.replicate, splice, LT.pack, Leaf.pack, Nat.reduceAdd, Nat.reduceSub, Nat.reduceLeDiff, Nat.reduceLT, Nat.reduceEqDiff, LT.lo, Leaf.lo]
  cases c with
  | false => simp -implicitDefEqProofs only [evs, reduceIte, rdRes, rdTT, rdTy, rdLT, Res.un, TT.un, Ty.un, LT.un, Leaf.un, Leaf.plain, LT.plain, evh, List.replicate, splice, LT.pack, Leaf.pack, Nat.reduceAdd, Nat.reduceSub, Nat.reduceLeDiff, Nat.reduceLT, Nat.reduceEqDiff, LT.lo, Leaf.lo, Bool.false_eq_true]
  | true =>
    have h3 := hc2 rfl
    simp -implicitDefEqProofs only [evs, reduceIte, rdRes, rdTT, rdTy, rdLT, Res.un, TT.un, Ty.un, LT.un, Leaf.un, Leaf.plain, LT.plain, evh, List.replicate, splice, LT.pack, Leaf.pack, Nat.reduceAdd, Nat.reduceSub, Nat.reduceLeDiff, Nat.reduceLT, Nat.reduceEqDiff, LT.lo, Leaf.lo, rdRow_a2]
    rw [SDraw_ok (d, a, m, xs) w n (by simp only; omega)]
    by_cases hd : (drawL (d, a, m, xs) w n).2.2 = 0
    · obtain ⟨hr, hid, hn, D, T1, T2, e1, e2, hw, hD, h0, h1, c1, c2', s1, s2, hj⟩ := drawL_right hd
      obtain ⟨v1, v2, v3, v4⟩ := draw_vat hr hid hn hw hD h0 h1 c1 c2' s1 s2 hj
      simp only at e1 e2 v1 v2 v3 v4
      rw [e1]
      simp -implicitDefEqProofs only [evs, reduceIte, rdRes, rdTT, rdTy, rdLT, Res.un, TT.un, Ty.un, LT.un, Leaf.un, Leaf.plain, LT.plain, evh, List.replicate, splice, LT.pack, Leaf.pack, Nat.reduceAdd, Nat.reduceSub, Nat.reduceLeDiff, Nat.reduceLT, Nat.reduceEqDiff, LT.lo, Leaf.lo, rdRow_a2, eq_self, decide_true]
      rw [Draw_ok, e2]
      simp -implicitDefEqProofs only [evs, reduceIte, rdRes, rdTT, rdTy, rdLT, Res.un, TT.un, Ty.un, LT.un, Leaf.un, Leaf.plain, LT.plain, evh, List.replicate, splice, LT.pack, Leaf.pack, Nat.reduceAdd, Nat.reduceSub, Nat.reduceLeDiff, Nat.reduceLT, Nat.reduceEqDiff, LT.lo, Leaf.lo, rdRow_a2, eq_self, decide_true]
      rw [sv_eta, sv_eta]
      obtain ⟨s, sl1, o, l1, l2, l3, l4⟩ := draws_loop1 (a := (n, D, w, T1)) (b := (d, a - D, m - w, T2)) (sl := [cL (d, a, m, rowSV false j2 xs), cL (n, D, w, rowSV true j2 T1), cL (d, a - D, m - w, rowSV true j2 T2), c2 (D, w), c2 (a - D, m - w)]) v1 v2
      simp only [cL, c2, rowSV_len, rowSV_cap, rowSV_tail] at l1
      rw [l1]
      simp -implicitDefEqProofs only [evs, reduceIte, rdRes, rdTT, rdTy, rdLT, Res.un, TT.un, Ty.un, LT.un, Leaf.un, Leaf.plain, LT.plain]
      have hsl : s.len = (keepL [((n, D, w, T1) : LotT), (d, a - D, m - w, T2)]).length := l2.len
      obtain ⟨sl2, m1, m2, m3⟩ := ids_loop (F := spilelaw23_ShareDraws.loop2 s) l2 (by omega) (fun i h hi => by
        have hg1 : 0 ≤ (i : Int) ∧ (i : Int) < (s.len : Int) := by rw [hsl]; omega
        unfold spilelaw23_ShareDraws.loop2
        simp -implicitDefEqProofs only [Int.toNat_natCast, guardO_pos hg1]
        rw [decide_eq_true hg1.2, cond_true, guardO_pos (Acc.nnL l2 hi), i64_succ (by omega)]
        rfl) (fun h => by
        unfold spilelaw23_ShareDraws.loop2
        simp -implicitDefEqProofs only [hsl]
        rw [decide_eq_false (by omega), cond_false])
      rw [m1]
      have ho0 : o ≠ some 0 := fun e => by have := l3 0 e; simp at this
      have x0 : sl2[0]? = some (cL (d, a, m, rowSV false j2 xs)) := by rw [m3 0 ho0, l4 0 (by simp)]; rfl
      have hl0 := (List.getElem?_eq_some_iff.1 x0).1
      have f0 : ∀ q : Slot, (sl2 ++ [q])[0]? = some (cL (d, a, m, rowSV false j2 xs)) := fun b => by rw [List.getElem?_append_left hl0, x0]
      have f1 : ∀ q : Slot, (sl2 ++ [q])[sl2.length]? = some q := fun b => by simp
      have f2 : ∀ q b : Slot, (sl2 ++ [q]).set sl2.length b = sl2 ++ [b] := fun u v => by rw [List.set_append_right _ _ (Nat.le_refl _), Nat.sub_self]; rfl
      have f3 : ∀ q : Slot, sl2.length < (sl2 ++ [q]).length := fun b => by simp
      have f4 : H.put (hL (sl2 ++ [Slot.own [V.int .i64 0, V.int .i64 0, V.int .i64 0, V.slice .nil 0 0 false] 4])) sl2.length (Slot.own [V.int .i64 d, V.int .i64 a, V.int .i64 m, V.slice (rowSV true j2 xs).a xs.length xs.length true] 4) = hL (sl2 ++ [Slot.own [V.int .i64 d, V.int .i64 a, V.int .i64 m, V.slice (rowSV true j2 xs).a xs.length xs.length true] 4]) := by rw [hL_put (f3 _), f2]
      simp only [cL, rowSV_len, rowSV_cap, rowSV_tail] at f0 x0
      have m2' := m2.read (lp := true) rfl
      simp -implicitDefEqProofs only [evs, reduceIte, rdRes, rdTT, rdTy, rdLT, Res.un, TT.un, Ty.un, LT.un, Leaf.un, Leaf.plain, LT.plain, evh, List.replicate, splice, LT.pack, Leaf.pack, Nat.reduceAdd, Nat.reduceSub, Nat.reduceLeDiff, Nat.reduceLT, Nat.reduceEqDiff, LT.lo, Leaf.lo, x0, Option.getD_some]
      rw [m2']
      simp -implicitDefEqProofs only [evs, reduceIte, rdRes, rdTT, rdTy, rdLT, Res.un, TT.un, Ty.un, LT.un, Leaf.un, Leaf.plain, LT.plain, evh, List.replicate, splice, LT.pack, Leaf.pack, Nat.reduceAdd, Nat.reduceSub, Nat.reduceLeDiff, Nat.reduceLT, Nat.reduceEqDiff, LT.lo, Leaf.lo]
      rw [Vat_ok _ _ (by rw [renTo_length]; omega), v4]
      simp -implicitDefEqProofs only [evs, reduceIte, rdRes, rdTT, rdTy, rdLT, Res.un, TT.un, Ty.un, LT.un, Leaf.un, Leaf.plain, LT.plain, evh, List.replicate, splice, LT.pack, Leaf.pack, Nat.reduceAdd, Nat.reduceSub, Nat.reduceLeDiff, Nat.reduceLT, Nat.reduceEqDiff, LT.lo, Leaf.lo, f2, f0, f1, Option.getD_some, rdRow_a2, eq_self, decide_true]
      rw [SameLot_ok _ _ (by simp only; omega)]
      simp -implicitDefEqProofs only [evs, reduceIte, rdRes, rdTT, rdTy, rdLT, Res.un, TT.un, Ty.un, LT.un, Leaf.un, Leaf.plain, LT.plain, eq_self, decide_true]
    · obtain ⟨t1, t2⟩ := drawL_bad hd
      generalize drawL (d, a, m, xs) w n = t at *
      obtain ⟨u1, u2, u3⟩ := t
      simp only at t1 t2 hd
      subst t1 t2
      simp -implicitDefEqProofs only [evs, reduceIte, rdRes, rdTT, rdTy, rdLT, Res.un, TT.un, Ty.un, LT.un, Leaf.un, Leaf.plain, LT.plain, evh, List.replicate, splice, LT.pack, Leaf.pack, Nat.reduceAdd, Nat.reduceSub, Nat.reduceLeDiff, Nat.reduceLT, Nat.reduceEqDiff, LT.lo, Leaf.lo]
      rw [decide_eq_false hd]
      simp -implicitDefEqProofs only [evs, reduceIte, rdRes, rdTT, rdTy, rdLT, Res.un, TT.un, Ty.un, LT.un, Leaf.un, Leaf.plain, LT.plain, evh, List.replicate, splice, LT.pack, Leaf.pack, Nat.reduceAdd, Nat.reduceSub, Nat.reduceLeDiff, Nat.reduceLT, Nat.reduceEqDiff, LT.lo, Leaf.lo, eq_self, decide_true]
      rfl
end Go.Proofs.Ytbcpdecgfdlaaaa
