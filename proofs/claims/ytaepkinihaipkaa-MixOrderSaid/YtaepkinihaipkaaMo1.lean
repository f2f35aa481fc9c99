/- What the functions of this seat compute: some texts in one. Conditions: those of each law. -/
import Derived.Test.YtaepkinihaipkaaFn8
import Derived.Test.YtaepkinihaipkaaEvRow
import Derived.Test.YtaepkinihaipkaaMo0
/- What Divide of package mix computes. Conditions: those of each law. -/
namespace Go.Proofs.Ytaepkinihaipkaa
open Go Go.Proofs.Ytaepkinihaipkaa.Ev
set_option linter.unusedVariables false
set_option linter.unusedSimpArgs false
set_option maxRecDepth 100000
set_option maxHeartbeats 4000000
theorem splice_mid (A L B vs : List V) (o : Nat) (h : o + vs.length ≤ L.length) : splice (A ++ L ++ B) (A.length + o) vs = A ++ splice L o vs ++ B := by
  unfold splice
  rw [List.append_assoc A L B, List.take_append, List.take_of_length_le (l := A) (by omega), List.drop_append, List.drop_eq_nil_of_le (show A.length ≤ A.length + o + vs.length by omega), Nat.add_sub_cancel_left,
    show A.length + o + vs.length - A.length = o + vs.length by omega, List.take_append_of_le_length (by omega), List.drop_append_of_le_length (by omega)]
  simp
/-- A part of an element is written. -/
theorem wrs_part {ls : List Leaf} {xs : List (LT ls)} {sl : List Slot} {id e n i w o : Nat} {x y : LT ls} {vs : List V} (hs : sl[id]? = some (.own (cellsL ls xs) e)) (hn : xs.length * ls.length = n) (hw : ls.length = w) (hx : xs[i]? = some x) (ho : o + vs.length ≤ w) (hv : splice (LT.lo true ls x) o vs = LT.lo true ls y) :
    H.wrs (hL sl) (.hp id n (i * w + o)) vs = some (hL (sl.set id (.own (cellsL ls (xs.set i y)) e))) := by
  subst hw
  obtain ⟨hi, hx'⟩ := List.getElem?_eq_some_iff.1 hx
  rw [wrs_own (cs := cellsL ls xs) hs (by rw [flat_length, hn]) (by
    have := Nat.mul_le_mul_right ls.length (show i + 1 ≤ xs.length from hi)
    rw [Nat.succ_mul] at this
    omega)]
  have h1 : cellsL ls xs = cellsL ls (xs.take i) ++ LT.lo true ls x ++ cellsL ls (xs.drop (i + 1)) := by
    have := congrArg (cellsL ls) (List.take_append_drop i xs)
    rw [List.drop_eq_getElem_cons hi, hx'] at this
    unfold cellsL at *
    rw [List.flatMap_append, List.flatMap_cons] at this
    rw [← this, List.append_assoc]
  have h2 : (cellsL ls (xs.take i)).length = i * ls.length := by rw [flat_length, List.length_take, Nat.min_eq_left (by omega)]
  have h3 : cellsL ls (xs.set i y) = cellsL ls (xs.take i) ++ LT.lo true ls y ++ cellsL ls (xs.drop (i + 1)) := by
    rw [List.set_eq_take_append_cons_drop, if_pos hi]
    unfold cellsL
    rw [List.flatMap_append, List.flatMap_cons, List.append_assoc]
  rw [h1, ← h2, splice_mid _ _ _ _ _ (by rw [LT.lo_length]; omega), hv, h3]
abbrev j2 : List Leaf := [.int .i64, .int .i64]
def fillM (al ps : List Int) (n k : Nat) : List (Int × Int) := (List.range n).map fun j : Nat => if j < k then (g al j, g ps j) else (0, 0)
theorem fillM_length {al ps : List Int} {n k : Nat} : (fillM al ps n k).length = n := by simp [fillM]
theorem fillM_get {al ps : List Int} {n k j : Nat} (h : j < n) : (fillM al ps n k)[j]? = some (if j < k then (g al j, g ps j) else (0, 0)) := by simp [fillM, h]
theorem fillM_succ {al ps : List Int} {n k : Nat} (h : k < n) : (fillM al ps n k).set k (g al k, g ps k) = fillM al ps n (k + 1) := by
  refine List.ext_getElem? fun j => ?_
  rw [List.getElem?_set]
  by_cases hj : j < n
  · rw [fillM_get hj, fillM_get hj, fillM_length]
    by_cases e : k = j
    · subst e; rw [if_pos rfl, if_pos h, if_pos (by omega)]
    · rw [if_neg e]
      by_cases hk : j < k
      · rw [if_pos hk, if_pos (by omega)]
      · rw [if_neg hk, if_neg (by omega)]
  · rw [if_neg (by omega), List.getElem?_eq_none (by rw [fillM_length]; omega), List.getElem?_eq_none (by rw [fillM_length]; omega)]
theorem fillM_zero {al ps : List Int} {n : Nat} : fillM al ps n 0 = List.replicate n (0, 0) := by
  refine List.ext_getElem? fun j => ?_
  by_cases hj : j < n
  · rw [fillM_get hj, List.getElem?_replicate, if_pos hj, if_neg (by omega)]
  · rw [List.getElem?_eq_none (by rw [fillM_length]; omega), List.getElem?_eq_none (by simp; omega)]
theorem repeat_zero2 (n : Nat) : repeatCells [.int .i64 0, .int .i64 0] n = cellsL j2 (List.replicate n ((0, 0) : Int × Int)) := by
  induction n with
  | zero => rfl
  | succ n ih =>
    simp only [repeatCells, ih, List.replicate_succ, cellsL, List.flatMap_cons]
    rfl
theorem mixdiv_loop {al ps : List Int} {n : Nat} {e : Int} {x : Int × Int} (hp : ps.length = n) (hn : n ≤ 64) (he : (e = 0 ∧ al.length = n) ∨ (e ≠ 0 ∧ al = [])) :
    iter FUEL (mix_Divide.loop1 (hL [Slot.own [V.int .i64 x.1, V.int .i64 x.2] 2]) ps al e) (0, hL [Slot.own [V.int .i64 x.1, V.int .i64 x.2] 2, .own (cellsL j2 (fillM al ps n 0)) 2]) = some (.ex0 (), hL [Slot.own [V.int .i64 x.1, V.int .i64 x.2] 2, .own (cellsL j2 (fillM al ps n n)) 2]) := by
  refine (iter_from (f := mix_Divide.loop1 (hL [Slot.own [V.int .i64 x.1, V.int .i64 x.2] 2]) ps al e) (fun i => ((i : Int), hL [Slot.own [V.int .i64 x.1, V.int .i64 x.2] 2, .own (cellsL j2 (fillM al ps n i)) 2])) rfl n FUEL (fun i hi => ?_) ?_ (fuel_gt (by omega)))
  · have hlp := g_some (xs := ps) (k := i) (by omega)
    have w1 := wrs_part (ls := j2) (xs := fillM al ps n i) (sl := [Slot.own [V.int .i64 x.1, V.int .i64 x.2] 2, .own (cellsL j2 (fillM al ps n i)) 2]) (id := 1) (i := i) (o := 1) (w := 2) (n := n * 2) (x := (0, 0)) (y := (0, g ps i)) (e := 2) (vs := [.int .i64 (g ps i)]) rfl (by rw [fillM_length]; rfl) rfl (by rw [fillM_get hi, if_neg (by omega)]) (by simp) rfl
    have hx2 : ((fillM al ps n i).set i (0, g ps i))[i]? = some (0, g ps i) := by rw [List.getElem?_set, if_pos rfl, fillM_length, if_pos hi]
    have w2 := wrs_part (ls := j2) (xs := (fillM al ps n i).set i (0, g ps i)) (sl := [Slot.own [V.int .i64 x.1, V.int .i64 x.2] 2, .own (cellsL j2 ((fillM al ps n i).set i (0, g ps i))) 2]) (id := 1) (i := i) (o := 0) (w := 2) (n := n * 2) (x := (0, g ps i)) (y := (g al i, g ps i)) (e := 2) (vs := [.int .i64 (g al i)]) rfl (by rw [List.length_set, fillM_length]; rfl) rfl hx2 (by simp) rfl
    rw [List.set_set, fillM_succ hi] at w2
    unfold mix_Divide.loop1
    simp -implicitDefEqProofs only [Int.toNat_natCast, rd_rowI, hlp, hL_next, List.length_cons, List.length_nil, Nat.zero_add, Nat.add_zero, hp]
    simp only [Nat.zero_add, Nat.add_zero, List.set_cons_succ, List.set_cons_zero] at w1 w2
    have hg1 : 0 ≤ (i : Int) ∧ (i : Int) < (n : Int) := by omega
    rw [decide_eq_true hg1.2, cond_true]
    simp -implicitDefEqProofs only [guardO_pos hg1, Option.bind_some]
    rw [w1]
    simp -implicitDefEqProofs only [Option.bind_some]
    rcases he with ⟨rfl, hl⟩ | ⟨he, rfl⟩
    · have hla := g_some (xs := al) (k := i) (by omega)
      simp -implicitDefEqProofs only [eq_self, decide_true, cond_true, hla, hl, guardO_pos hg1, Option.bind_some]
      rw [w2]
      simp -implicitDefEqProofs only [Option.bind_some]
      rw [i64_succ (by omega)]
    · rw [decide_eq_false he]
      simp -implicitDefEqProofs only [cond_false, Option.bind_some]
      rw [i64_succ (by omega)]
      rw [← fillM_succ hi]
      rfl
  · unfold mix_Divide.loop1
    simp -implicitDefEqProofs only [hp]
    rw [decide_eq_false (by omega), cond_false]
def mixDivOf (x : Int × Int) (ws : List Int) : List (Int × Int) × Int :=
  if isPlain x = true then (if (weighOf x.2 ws).2 = 0 then (fillM (divideOf x.1 (divParts x.2 (weighOf x.2 ws).1 ws)).1 (divParts x.2 (weighOf x.2 ws).1 ws) ws.length ws.length, 0) else ([], (weighOf x.2 ws).2)) else ([], 1)
theorem divideOf_cases (a : Int) (ws : List Int) : ((divideOf a ws).2 = 0 ∧ (divideOf a ws).1.length = ws.length) ∨ ((divideOf a ws).2 ≠ 0 ∧ (divideOf a ws).1 = []) := by
  unfold divideOf
  by_cases h : (weighOf a ws).2 = 0
  · rw [if_pos h]; exact .inl ⟨rfl, divParts_length⟩
  · rw [if_neg h]; exact .inr ⟨h, rfl⟩
theorem MDivide_ok (x : Int × Int) (ws : List Int) (hl : ws.length < 2 ^ 63) : mix_DivideP x ws = some (mixDivOf x ws) := by
  obtain ⟨a, v⟩ := x
  unfold mix_DivideP mix_Divide mixDivOf
  simp -implicitDefEqProofs only [evs, reduceIte, rdRes, rdTT, rdTy, rdLT, Res.un, TT.un, Ty.un, LT.un, Leaf.un, Leaf.plain, LT.plain, evh, List.replicate, splice, LT.pack, Leaf.pack, Nat.reduceAdd, Nat.reduceSub, Nat.reduceLeDiff, Nat.reduceLT, Nat.reduceEqDiff, LT.lo, Leaf.lo]
  rw [plain_ok]
  simp -implicitDefEqProofs only [evs, reduceIte, rdRes, rdTT, rdTy, rdLT, Res.un, TT.un, Ty.un, LT.un, Leaf.un, Leaf.plain, LT.plain, evh, List.replicate, splice, LT.pack, Leaf.pack, Nat.reduceAdd, Nat.reduceSub, Nat.reduceLeDiff, Nat.reduceLT, Nat.reduceEqDiff, LT.lo, Leaf.lo]
  cases h : isPlain (a, v) with
  | false => simp -implicitDefEqProofs only [evs, reduceIte, rdRes, rdTT, rdTy, rdLT, Res.un, TT.un, Ty.un, LT.un, Leaf.un, Leaf.plain, LT.plain, evh, List.replicate, splice, LT.pack, Leaf.pack, Nat.reduceAdd, Nat.reduceSub, Nat.reduceLeDiff, Nat.reduceLT, Nat.reduceEqDiff, LT.lo, Leaf.lo]; rfl
  | true =>
    simp -implicitDefEqProofs only [evs, reduceIte, rdRes, rdTT, rdTy, rdLT, Res.un, TT.un, Ty.un, LT.un, Leaf.un, Leaf.plain, LT.plain, evh, List.replicate, splice, LT.pack, Leaf.pack, Nat.reduceAdd, Nat.reduceSub, Nat.reduceLeDiff, Nat.reduceLT, Nat.reduceEqDiff, LT.lo, Leaf.lo]
    rw [Divide_ok v ws hl, divideOf]
    by_cases he : (weighOf v ws).2 = 0
    · obtain ⟨ha, h0, h64, hall, hSa, hne, h1⟩ := weighOf_ok he
      rw [if_pos he, if_pos he]
      simp -implicitDefEqProofs only [evs, reduceIte, rdRes, rdTT, rdTy, rdLT, Res.un, TT.un, Ty.un, LT.un, Leaf.un, Leaf.plain, LT.plain, evh, List.replicate, splice, LT.pack, Leaf.pack, Nat.reduceAdd, Nat.reduceSub, Nat.reduceLeDiff, Nat.reduceLT, Nat.reduceEqDiff, LT.lo, Leaf.lo, eq_self, decide_true, divParts_length]
      rw [guardO_pos (by unfold roomCells; omega)]
      have hpl := divParts_length (a := v) (S := (weighOf v ws).1) (ws := ws)
      generalize divParts v (weighOf v ws).1 ws = ps at *
      simp -implicitDefEqProofs only [evs, reduceIte, rdRes, rdTT, rdTy, rdLT, Res.un, TT.un, Ty.un, LT.un, Leaf.un, Leaf.plain, LT.plain, evh, List.replicate, splice, LT.pack, Leaf.pack, Nat.reduceAdd, Nat.reduceSub, Nat.reduceLeDiff, Nat.reduceLT, Nat.reduceEqDiff, LT.lo, Leaf.lo, Int.toNat_natCast]
      rw [Divide_ok a ps (by omega)]
      simp -implicitDefEqProofs only [evs, reduceIte, rdRes, rdTT, rdTy, rdLT, Res.un, TT.un, Ty.un, LT.un, Leaf.un, Leaf.plain, LT.plain, evh, List.replicate, splice, LT.pack, Leaf.pack, Nat.reduceAdd, Nat.reduceSub, Nat.reduceLeDiff, Nat.reduceLT, Nat.reduceEqDiff, LT.lo, Leaf.lo]
      have hc := divideOf_cases a ps
      rw [hpl] at hc
      have hloop := mixdiv_loop (x := (a, v)) (ps := ps) (n := ws.length) hpl h64 hc
      rw [fillM_zero, ← repeat_zero2] at hloop
      simp only at hloop
      rw [hloop]
      simp -implicitDefEqProofs only [evs, reduceIte, rdRes, rdTT, rdTy, rdLT, Res.un, TT.un, Ty.un, LT.un, Leaf.un, Leaf.plain, LT.plain, evh, List.replicate, splice, LT.pack, Leaf.pack, Nat.reduceAdd, Nat.reduceSub, Nat.reduceLeDiff, Nat.reduceLT, Nat.reduceEqDiff, LT.lo, Leaf.lo]
      have hread := rdRow_own (lp := false) (ls := j2) (xs := fillM (divideOf a ps).1 ps ws.length ws.length) (sl := [Slot.own [V.int .i64 a, V.int .i64 v] 2, .own (cellsL j2 (fillM (divideOf a ps).1 ps ws.length ws.length)) 2]) (id := 1) (e := 2) (n := ws.length * 2) (c := ws.length) (t := true) rfl (by rw [fillM_length]; rfl) rfl
      rw [fillM_length] at hread
      rw [hread]
      rfl
    · rw [if_neg he, if_neg he]
      simp -implicitDefEqProofs only [evs, reduceIte, rdRes, rdTT, rdTy, rdLT, Res.un, TT.un, Ty.un, LT.un, Leaf.un, Leaf.plain, LT.plain, evh, List.replicate, splice, LT.pack, Leaf.pack, Nat.reduceAdd, Nat.reduceSub, Nat.reduceLeDiff, Nat.reduceLT, Nat.reduceEqDiff, LT.lo, Leaf.lo]
      rw [decide_eq_false he]
      simp -implicitDefEqProofs only [evs, reduceIte, rdRes, rdTT, rdTy, rdLT, Res.un, TT.un, Ty.un, LT.un, Leaf.un, Leaf.plain, LT.plain, evh, List.replicate, splice, LT.pack, Leaf.pack, Nat.reduceAdd, Nat.reduceSub, Nat.reduceLeDiff, Nat.reduceLT, Nat.reduceEqDiff, LT.lo, Leaf.lo]
end Go.Proofs.Ytaepkinihaipkaa
/- The law MixParts in plain numbers. Conditions: none. -/
namespace Go.Proofs.Ytaepkinihaipkaa
open Go Go.Proofs.Ytaepkinihaipkaa.Ev
set_option linter.unusedVariables false
set_option linter.unusedSimpArgs false
set_option maxRecDepth 100000
set_option maxHeartbeats 4000000
theorem part_zero {a : Int} {ws : List Int} {i : Nat} (ha : 0 ≤ a) (hS : 0 < ws.sum) (hw : ∀ w ∈ ws, 0 ≤ w) (hi : i < ws.length) : 0 ≤ g (divParts a ws.sum ws) i ∧ (g ws i = 0 → g (divParts a ws.sum ws) i = 0) := by
  have hl : 0 < ws.length := by omega
  have hb := left_bound (a := a) hS hl
  have hwi := hw _ (g_mem hi)
  have e0 : 0 ≤ a * g ws i / ws.sum := Int.ediv_nonneg (Int.mul_nonneg ha hwi) (by omega)
  have hlt : (i : Int) ∈ (ord (rems a ws.sum ws)).take (a - (quos a ws.sum ws).sum).toNat → 0 < a * g ws i % ws.sum := fun h => by
    obtain ⟨p, hp, e⟩ := List.getElem_of_mem h
    rw [List.getElem_take] at e
    rw [List.length_take, ord_length, rems_length] at hp
    have := rem_pos (a := a) (p := p) hS hl (by omega)
    rw [g_eq (xs := ord _) (by rw [ord_length, rems_length]; omega), e, Int.toNat_natCast, g_rems hi] at this
    exact this
  unfold divParts
  rw [g_bump (by rw [quos_length]; exact hi), g_quos hi]
  by_cases h : (i : Int) ∈ (ord (rems a ws.sum ws)).take (a - (quos a ws.sum ws).sum).toNat
  · rw [if_pos h]
    refine ⟨by omega, fun e => ?_⟩
    have := hlt h
    rw [e] at this
    simp at this
  · rw [if_neg h]
    refine ⟨by omega, fun e => ?_⟩
    rw [e]
    simp
theorem sum_take_g (xs : List Int) (i : Nat) : (xs.take (i + 1)).sum = (xs.take i).sum + g xs i := by
  by_cases h : i < xs.length
  · rw [sum_take_succ h, g_eq h]
  · rw [List.take_of_length_le (by omega), List.take_of_length_le (by omega)]
    unfold g
    rw [List.getElem?_eq_none (by omega)]
    simp
abbrev c2 (x : Int × Int) : Slot := .own [.int .i64 x.1, .int .i64 x.2] 2
def slotsM (x : Int × Int) (al ps : List Int) (n i : Nat) : List Slot := c2 x :: c2 ((al.take i).sum, (ps.take i).sum) :: ((fillM al ps n n).take i).map c2
theorem slotsM_succ {x : Int × Int} {al ps : List Int} {n i : Nat} (h : i < n) : (slotsM x al ps n i ++ [c2 (g al i, g ps i)]).set 1 (c2 ((al.take i).sum + g al i, (ps.take i).sum + g ps i)) = slotsM x al ps n (i + 1) := by
  unfold slotsM
  have := fillM_get (al := al) (ps := ps) (k := n) h
  rw [if_pos h] at this
  obtain ⟨h1, h2⟩ := List.getElem?_eq_some_iff.1 this
  rw [← List.take_append_getElem h1, h2, sum_take_g, sum_take_g, List.map_append]
  rfl
theorem new_c2 {sl : List Slot} {x : Int × Int} : H.wrs (hL (sl ++ [Slot.own [V.int .i64 0, V.int .i64 0] 2])) (.hp sl.length 2 0) [.int .i64 x.1, .int .i64 x.2] = some (hL (sl ++ [c2 x])) := by
  rw [wrs_own (g := 2) (cs := [V.int .i64 0, V.int .i64 0]) (e := 2) (by simp) rfl (by simp)]
  simp [splice]
theorem rd_c2 {sl : List Slot} {id : Nat} {x : Int × Int} (h : sl[id]? = some (c2 x)) : rdT (.leaf (.int .i64)) (hL sl) (.hp id 2 0) = some x.1 ∧ rdT (.leaf (.int .i64)) (hL sl) (.hp id 2 1) = some x.2 := by
  refine ⟨?_, ?_⟩
  · rw [rd_own (g := 2) h rfl]; rfl
  · rw [rd_own (g := 2) h rfl]; rfl
theorem rds_c2 {sl : List Slot} {id : Nat} {x : Int × Int} (h : sl[id]? = some (c2 x)) : rdT (.agg [.int .i64, .int .i64]) (hL sl) (.hp id 2 0) = some x := by
  rw [rds_hp (by simp), hL_m, h]; rfl
theorem wrs_c2 {sl : List Slot} {id : Nat} {x y : Int × Int} (h : sl[id]? = some (c2 x)) : H.wrs (hL sl) (.hp id 2 0) [.int .i64 y.1, .int .i64 y.2] = some (hL (sl.set id (c2 y))) := by
  rw [wrs_own (g := 2) h rfl (by simp)]; rfl
theorem parts_loop {x : Int × Int} {al ps ws : List Int} {n : Nat} {f : Bool} (hw : ws.length = n) (hn : n ≤ 64) (ha : ∀ y ∈ al, 0 ≤ y) (hp : ∀ y ∈ ps, 0 ≤ y) (has : al.sum = x.1) (hps : ps.sum = x.2) (hx : isPlain x = true)
    (h : ∀ i, i < n → 0 ≤ g al i ∧ 0 ≤ g ps i ∧ (g ps i = 0 → g al i = 0) ∧ (g ws i = 0 → g ps i = 0)) :
    iter FUEL (spilelaw21_MixParts.loop1 (rowSV f [.int .i64] ws) (hL [c2 x]) (fillM al ps n n)) (0, hL [c2 x, c2 (0, 0)]) = some (.ex0 (), hL (slotsM x al ps n n)) := by
  rw [isPlain_iff] at hx
  refine (iter_from (f := spilelaw21_MixParts.loop1 (rowSV f [.int .i64] ws) (hL [c2 x]) (fillM al ps n n)) (fun i => ((i : Int), hL (slotsM x al ps n i))) rfl n FUEL (fun i hi => ?_) ?_ (fuel_gt (by omega)))
  · obtain ⟨b1, b2, b3, b4⟩ := h i hi
    have k1 := sum_take_le ha i
    have k2 := sum_take_le hp i
    have k3 := sum_take_le ha (i + 1)
    have k4 := sum_take_le hp (i + 1)
    rw [sum_take_g] at k3 k4
    have hlw := g_some (xs := ws) (k := i) (by omega)
    have hget := fillM_get (al := al) (ps := ps) (k := n) hi
    rw [if_pos hi] at hget
    have hg1 : 0 ≤ (i : Int) ∧ (i : Int) < (n : Int) := by omega
    have hrow : (slotsM x al ps n i ++ [c2 (g al i, g ps i)])[(slotsM x al ps n i).length]? = some (c2 (g al i, g ps i)) := by simp
    have htot : (slotsM x al ps n i ++ [c2 (g al i, g ps i)])[1]? = some (c2 ((al.take i).sum, (ps.take i).sum)) := rfl
    have r1 := rd_c2 hrow
    have r2 := rds_c2 hrow
    have t1 := rd_c2 htot
    have wt := wrs_c2 (y := ((al.take i).sum + g al i, (ps.take i).sum + g ps i)) htot
    have nw := new_c2 (sl := slotsM x al ps n i) (x := (g al i, g ps i))
    rw [slotsM_succ hi] at wt
    simp only at r1 t1 wt nw
    unfold spilelaw21_MixParts.loop1
    simp -implicitDefEqProofs only [Int.toNat_natCast, rowSV_len, fillM_length, hw]
    rw [decide_eq_true hg1.2, cond_true]
    simp -implicitDefEqProofs only [guardO_pos hg1]
    rw [rds_rowF (ls := j2) (w := 2) rfl (by omega) rfl, hget]
    simp -implicitDefEqProofs only [Option.bind_some, hL_new, hL_next, List.length_cons, List.length_nil, Nat.zero_add]
    rw [nw]
    simp -implicitDefEqProofs only [Option.bind_some, r1.1, r1.2, r2, rd_rowI, hlw]
    rw [decide_eq_false (show ¬ g al i < 0 by omega), decide_eq_false (show ¬ g ps i < 0 by omega)]
    simp -implicitDefEqProofs only [evs, reduceIte, rdRes, rdTT, rdTy, rdLT, Res.un, TT.un, Ty.un, LT.un, Leaf.un, Leaf.plain, LT.plain]
    have hfin : ∀ b, b = false → ((some (b, hL (slotsM x al ps n i ++ [c2 (g al i, g ps i)])) : Option (Bool × H)).bind fun x_1 => (bif x_1.1 then (some (.done (.ret false, x_1.2))) else ((rdT (.leaf (.int .i64)) x_1.2 (.hp 1 2 0)).bind fun x24 =>
((rdT (.leaf (.int .i64)) x_1.2 (.hp (slotsM x al ps n i).length 2 0)).bind fun x25 =>
((rdT (.leaf (.int .i64)) x_1.2 (.hp 1 2 1)).bind fun x26 =>
((rdT (.leaf (.int .i64)) x_1.2 (.hp (slotsM x al ps n i).length 2 1)).bind fun x27 =>
((H.wrs x_1.2 (.hp 1 2 0) [.int .i64 (IntKind.wrap .i64 (x24 + x25)), .int .i64 (IntKind.wrap .i64 (x26 + x27))]).bind fun h28 =>
(some (.more ((IntKind.wrap .i64 ((i : Int) + 1)), h28)))))))) : Option (Stp ((Int) × H) (Flow (Unit) (Bool) × H)))) = some (.more (((i + 1 : Nat) : Int), hL (slotsM x al ps n (i + 1)))) := fun b hb => by
      subst hb
      simp -implicitDefEqProofs only [Option.bind_some, cond_false, r1.1, r1.2, t1.1, t1.2]
      rw [i64_in _ (by omega), i64_in _ (by omega), wt]
      simp -implicitDefEqProofs only [Option.bind_some]
      rw [i64_succ (by omega)]
    by_cases c1 : g ps i = 0
    · have c2' := b3 c1
      rw [decide_eq_true c1, decide_eq_true c2']
      simp -implicitDefEqProofs only [evs, reduceIte, rdRes, rdTT, rdTy, rdLT, Res.un, TT.un, Ty.un, LT.un, Leaf.un, Leaf.plain, LT.plain]
      by_cases c3 : g ws i = 0
      · rw [decide_eq_true c3]
        simp -implicitDefEqProofs only [evs, reduceIte, rdRes, rdTT, rdTy, rdLT, Res.un, TT.un, Ty.un, LT.un, Leaf.un, Leaf.plain, LT.plain]
        exact hfin false rfl
      · rw [decide_eq_false c3]
        simp -implicitDefEqProofs only [evs, reduceIte, rdRes, rdTT, rdTy, rdLT, Res.un, TT.un, Ty.un, LT.un, Leaf.un, Leaf.plain, LT.plain]
        exact hfin false rfl
    · have c3 : ¬ g ws i = 0 := fun e => c1 (b4 e)
      rw [decide_eq_false c1, decide_eq_false c3]
      simp -implicitDefEqProofs only [evs, reduceIte, rdRes, rdTT, rdTy, rdLT, Res.un, TT.un, Ty.un, LT.un, Leaf.un, Leaf.plain, LT.plain]
      exact hfin false rfl
  · unfold spilelaw21_MixParts.loop1
    simp -implicitDefEqProofs only [fillM_length]
    rw [decide_eq_false (by omega), cond_false]
theorem MixParts_ok (x : Int × Int) (ws : List Int) : spilelaw21_MixPartsP x ws = some true := by
  obtain ⟨a, v⟩ := x
  unfold spilelaw21_MixPartsP spilelaw21_MixParts
  simp -implicitDefEqProofs only [awake21, evs, reduceIte, rdRes, rdTT, rdTy, rdLT, Res.un, TT.un, Ty.un, LT.un, Leaf.un, Leaf.plain, LT.plain, evh, List.replicate, splice, LT.pack, Leaf.pack, Nat.reduceAdd, Nat.reduceSub, Nat.reduceLeDiff, Nat.reduceLT, Nat.reduceEqDiff, LT.lo, Leaf.lo]
  by_cases h70 : (70 : Int) < (ws.length : Int)
  · rw [decide_eq_true h70]
    simp -implicitDefEqProofs only [evs, reduceIte, rdRes, rdTT, rdTy, rdLT, Res.un, TT.un, Ty.un, LT.un, Leaf.un, Leaf.plain, LT.plain, evh, List.replicate, splice, LT.pack, Leaf.pack, Nat.reduceAdd, Nat.reduceSub, Nat.reduceLeDiff, Nat.reduceLT, Nat.reduceEqDiff, LT.lo, Leaf.lo]
  · rw [decide_eq_false h70]
    simp -implicitDefEqProofs only [evs, reduceIte, rdRes, rdTT, rdTy, rdLT, Res.un, TT.un, Ty.un, LT.un, Leaf.un, Leaf.plain, LT.plain, evh, List.replicate, splice, LT.pack, Leaf.pack, Nat.reduceAdd, Nat.reduceSub, Nat.reduceLeDiff, Nat.reduceLT, Nat.reduceEqDiff, LT.lo, Leaf.lo]
    rw [MDivide_ok _ ws (by omega), mixDivOf]
    simp only
    by_cases hp : isPlain (a, v) = true
    · rw [if_pos hp]
      have hp' := isPlain_iff.1 hp
      simp only at hp'
      by_cases he : (weighOf v ws).2 = 0
      · obtain ⟨ha, h0, h64, hall, hSa, hne, h1⟩ := weighOf_ok he
        have hS' := isAmt_iff.1 hSa
        rw [if_pos he, h1]
        have hw0 : ∀ w ∈ ws, 0 ≤ w := fun w hw => (all_amt hall w hw).1
        have hpl := divParts_length (a := v) (S := ws.sum) (ws := ws)
        have hps := divParts_sum (a := v) (ws := ws) (by omega) h0
        have hb := fun i hi => part_zero (a := v) (ws := ws) (i := i) hp'.2.2.1 (by omega) hw0 hi
        generalize divParts v ws.sum ws = ps at *
        have hp0 : ∀ y ∈ ps, 0 ≤ y := fun y hy => by
          obtain ⟨k, hk, rfl⟩ := mem_g hy
          exact (hb k (by omega)).1
        have hpa : ps.all isAmt = true := List.all_eq_true.2 fun y hy => isAmt_iff.2 (by
          have k1 := hp0 y hy
          have k2 := mem_le_sum hp0 hy
          omega)
        have hal : (∀ y ∈ (divideOf a ps).1, 0 ≤ y) ∧ (divideOf a ps).1.sum = a ∧ ∀ i, i < ws.length → 0 ≤ g (divideOf a ps).1 i ∧ (g ps i = 0 → g (divideOf a ps).1 i = 0) := by
          by_cases hv : v = 0
          · have ha0 : a = 0 := by omega
            have hw : weighOf a ps = (0, 16) := by
              unfold weighOf
              rw [if_pos (isAmt_iff.2 (by omega)), if_neg (by omega), if_neg (by omega), if_pos (by rw [hpa, hps, hv]; rfl), if_pos (by omega)]
            rw [divideOf, hw, if_neg (by simp)]
            exact ⟨by simp, by simp [ha0], fun i _ => ⟨by simp [g], fun _ => by simp [g]⟩⟩
          · have hw : weighOf a ps = (ps.sum, 0) := by
              unfold weighOf
              rw [if_pos (isAmt_iff.2 (by omega)), if_neg (by omega), if_neg (by omega), if_pos (by rw [hpa, hps, ha]; rfl), if_neg (by omega)]
            have hz := fun i hi => part_zero (a := a) (ws := ps) (i := i) hp'.1 (by omega) hp0 hi
            rw [divideOf, hw, if_pos rfl]
            refine ⟨fun y hy => ?_, divParts_sum (by omega) (by omega), fun i hi => hz i (by omega)⟩
            obtain ⟨k, hk, rfl⟩ := mem_g hy
            exact (hz k (by rwa [divParts_length] at hk)).1
        obtain ⟨q1, q2, q3⟩ := hal
        simp -implicitDefEqProofs only [evs, reduceIte, rdRes, rdTT, rdTy, rdLT, Res.un, TT.un, Ty.un, LT.un, Leaf.un, Leaf.plain, LT.plain, evh, List.replicate, splice, LT.pack, Leaf.pack, Nat.reduceAdd, Nat.reduceSub, Nat.reduceLeDiff, Nat.reduceLT, Nat.reduceEqDiff, LT.lo, Leaf.lo, eq_self, decide_true, fillM_length]
        have hloop := parts_loop (x := (a, v)) (al := (divideOf a ps).1) (ps := ps) (ws := ws) (f := false) rfl h64 q1 hp0 q2 hps hp (fun i hi => ⟨(q3 i hi).1, (hb i hi).1, (q3 i hi).2, (hb i hi).2⟩)
        simp only [c2] at hloop
        rw [hloop]
        simp -implicitDefEqProofs only [evs, reduceIte, rdRes, rdTT, rdTy, rdLT, Res.un, TT.un, Ty.un, LT.un, Leaf.un, Leaf.plain, LT.plain]
        have e0 : (slotsM (a, v) (divideOf a ps).1 ps ws.length ws.length)[0]? = some (c2 (a, v)) := rfl
        have e1 : (slotsM (a, v) (divideOf a ps).1 ps ws.length ws.length)[1]? = some (c2 (((divideOf a ps).1.take ws.length).sum, (ps.take ws.length).sum)) := rfl
        have hal2 : (divideOf a ps).1.length ≤ ws.length := by
          rcases divideOf_cases a ps with ⟨_, h⟩ | ⟨_, h⟩
          · omega
          · rw [h]; simp
        rw [List.take_of_length_le hal2, List.take_of_length_le (by omega), q2, hps] at e1
        rw [hL_m, hL_m, e0, e1]
        simp [LT.pack, Leaf.pack]
      · rw [if_neg he]
        simp -implicitDefEqProofs only [evs, reduceIte, rdRes, rdTT, rdTy, rdLT, Res.un, TT.un, Ty.un, LT.un, Leaf.un, Leaf.plain, LT.plain, evh, List.replicate, splice, LT.pack, Leaf.pack, Nat.reduceAdd, Nat.reduceSub, Nat.reduceLeDiff, Nat.reduceLT, Nat.reduceEqDiff, LT.lo, Leaf.lo]
        rw [decide_eq_false he]
        rfl
    · rw [if_neg hp]
      simp -implicitDefEqProofs only [evs, reduceIte, rdRes, rdTT, rdTy, rdLT, Res.un, TT.un, Ty.un, LT.un, Leaf.un, Leaf.plain, LT.plain, evh, List.replicate, splice, LT.pack, Leaf.pack, Nat.reduceAdd, Nat.reduceSub, Nat.reduceLeDiff, Nat.reduceLT, Nat.reduceEqDiff, LT.lo, Leaf.lo]
      rfl
end Go.Proofs.Ytaepkinihaipkaa
/- What Sum of package mix, and Sum, Draw, Divide of its reference compute. Conditions: those of each law. -/
namespace Go.Proofs.Ytaepkinihaipkaa
open Go Go.Proofs.Ytaepkinihaipkaa.Ev
set_option linter.unusedVariables false
set_option linter.unusedSimpArgs false
set_option maxRecDepth 100000
set_option maxHeartbeats 4000000
theorem IndexFunc_liq {T : Table} {v : V} {h : H} {xs : List (Int × Int)} {f : Bool} (p : Int × Int → Bool) (hn : xs.length < 2 ^ 63) (hc : ∀ x ∈ xs, ∀ {R : Type} (k : V → H → Option R), callV T.dy v [.agg [.int .i64 x.1, .int .i64 x.2]] h k = k (.bool (p x)) h) :
    slices_IndexFunc_api_Liquid_api_Liquid T (rowSV f [.int .i64, .int .i64] xs) v h = some (idxOf p xs, h) := by
  unfold slices_IndexFunc_api_Liquid_api_Liquid
  rw [iter_find xs p (fun i => (i : Int)) hn (fun i x hx => by
    obtain ⟨hlt, rfl⟩ := List.getElem?_eq_some_iff.1 hx
    unfold slices_IndexFunc_api_Liquid_api_Liquid.loop1
    simp only [rowSV_len, Int.toNat_natCast]
    rw [decide_eq_true (by omega), cond_true, guardO_pos (by omega), rds_rowF (ls := j2) (w := 2) rfl (by omega) rfl, hx]
    simp only [Option.bind_some]
    rw [hc _ (List.getElem_mem hlt)]
    simp only [Res.pack, Ty.pack, Leaf.pack, Option.bind_some]
    rw [i64_succ (by omega)]
    cases p xs[i] <;> rfl) (by
    unfold slices_IndexFunc_api_Liquid_api_Liquid.loop1
    simp only [rowSV_len]
    rw [decide_eq_false (by omega), cond_false])]
  unfold idxOf
  cases xs.findIdx? p <;> rfl
theorem ContainsFunc_liq {T : Table} {v : V} {h : H} {xs : List (Int × Int)} {f : Bool} (p : Int × Int → Bool) (hn : xs.length < 2 ^ 63) (hc : ∀ x ∈ xs, ∀ {R : Type} (k : V → H → Option R), callV T.dy v [.agg [.int .i64 x.1, .int .i64 x.2]] h k = k (.bool (p x)) h) :
    slices_ContainsFunc_api_Liquid_api_Liquid T (rowSV f [.int .i64, .int .i64] xs) v h = some (xs.any p, h) := by
  unfold slices_ContainsFunc_api_Liquid_api_Liquid
  rw [IndexFunc_liq (T := slices_ContainsFunc_api_Liquid_api_Liquid.tb T) p hn hc]
  simp only [Option.bind_some, idxOf_nonneg]
theorem sum1_ok (a v : Int) : mix_Sum_1P (a, v) = some (!isPlain (a, v)) := by
  unfold mix_Sum_1P mix_Sum_1
  simp -implicitDefEqProofs only [evs, reduceIte, rdRes, rdTT, rdTy, rdLT, Res.un, TT.un, Ty.un, LT.un, Leaf.un, Leaf.plain, LT.plain, evh, List.replicate, splice, LT.pack, Leaf.pack, Nat.reduceAdd, Nat.reduceSub, Nat.reduceLeDiff, Nat.reduceLT, Nat.reduceEqDiff, LT.lo, Leaf.lo]
  rw [plain_ok]
  simp -implicitDefEqProofs only [evs, reduceIte, rdRes, rdTT, rdTy, rdLT, Res.un, TT.un, Ty.un, LT.un, Leaf.un, Leaf.plain, LT.plain, evh, List.replicate, splice, LT.pack, Leaf.pack, Nat.reduceAdd, Nat.reduceSub, Nat.reduceLeDiff, Nat.reduceLT, Nat.reduceEqDiff, LT.lo, Leaf.lo]
/-- The sum of liquids. -/
def sumL (xs : List (Int × Int)) : Int × Int := ((xs.map (·.1)).sum, (xs.map (·.2)).sum)
theorem sumL_take {xs : List (Int × Int)} {i : Nat} {x : Int × Int} (h : xs[i]? = some x) : sumL (xs.take (i + 1)) = ((sumL (xs.take i)).1 + x.1, (sumL (xs.take i)).2 + x.2) := by
  obtain ⟨hi, rfl⟩ := List.getElem?_eq_some_iff.1 h
  rw [← List.take_append_getElem hi]
  unfold sumL
  simp only [List.map_append, List.map_cons, List.map_nil, List.sum_append, List.sum_cons, List.sum_nil, Int.add_zero]
theorem sumL_bound {xs : List (Int × Int)} (h : ∀ x ∈ xs, isPlain x = true) : 0 ≤ (sumL xs).1 ∧ (sumL xs).1 ≤ xs.length * 10737418240000 ∧ 0 ≤ (sumL xs).2 ∧ (sumL xs).2 ≤ xs.length * 128849018880000 := by
  induction xs with
  | nil => simp [sumL]
  | cons x xs ih =>
    have h1 := ih fun y hy => h y (by simp [hy])
    have h2 := isPlain_iff.1 (h x (by simp))
    simp only [sumL, List.map_cons, List.sum_cons, List.length_cons] at h1 ⊢
    omega
def slotsT (xs : List (Int × Int)) (i : Nat) : List Slot := c2 (0, 0) :: c2 (sumL (xs.take i)) :: (xs.take i).map c2
theorem slotsT_succ {xs : List (Int × Int)} {i : Nat} {x : Int × Int} (h : xs[i]? = some x) : (slotsT xs i ++ [c2 x]).set 1 (c2 ((sumL (xs.take i)).1 + x.1, (sumL (xs.take i)).2 + x.2)) = slotsT xs (i + 1) := by
  unfold slotsT
  rw [sumL_take h]
  obtain ⟨hi, rfl⟩ := List.getElem?_eq_some_iff.1 h
  rw [← List.take_append_getElem hi, List.map_append]
  rfl
theorem wr0_c2 {sl : List Slot} {id : Nat} {x : Int × Int} {y : Int} (h : sl[id]? = some (c2 x)) : H.wrs (hL sl) (.hp id 2 0) [.int .i64 y] = some (hL (sl.set id (c2 (y, x.2)))) := by
  rw [wrs_own (g := 2) h rfl (by simp)]; rfl
theorem wr1_c2 {sl : List Slot} {id : Nat} {x : Int × Int} {y : Int} (h : sl[id]? = some (c2 x)) : H.wrs (hL sl) (.hp id 2 1) [.int .i64 y] = some (hL (sl.set id (c2 (x.1, y)))) := by
  rw [wrs_own (g := 2) h rfl (by simp)]; rfl
theorem total_ok {xs : List (Int × Int)} (hl : xs.length ≤ 8) (h : ∀ x ∈ xs, isPlain x = true) : mix_totalP xs = some (sumL xs) := by
  unfold mix_totalP mix_total
  simp -implicitDefEqProofs only [hL_empty, hL_new, hL_next, List.length_nil, List.nil_append, List.length_cons, Nat.zero_add, List.cons_append]
  have hloop : iter FUEL (mix_total.loop1 (rowSV false [.int .i64, .int .i64] xs) (hL [c2 (0, 0)])) (0, hL [c2 (0, 0), c2 (0, 0)]) = some (.ex0 (), hL (slotsT xs xs.length)) := by
    refine (iter_from (f := mix_total.loop1 (rowSV false [.int .i64, .int .i64] xs) (hL [c2 (0, 0)])) (fun i => ((i : Int), hL (slotsT xs i))) rfl xs.length FUEL (fun i hi => ?_) ?_ (fuel_gt (by omega)))
    · have hget := List.getElem?_eq_getElem hi
      have hb := sumL_bound (xs := xs.take i) (fun x hx => h x (List.mem_of_mem_take hx))
      have hx := isPlain_iff.1 (h _ (List.getElem_mem hi))
      rw [List.length_take, Nat.min_eq_left (by omega)] at hb
      generalize hxi : xs[i] = x at *
      have hlen : (slotsT xs i).length = i + 2 := by simp [slotsT]; omega
      have hrow : (slotsT xs i ++ [c2 x])[(slotsT xs i).length]? = some (c2 x) := by simp
      have htot : (slotsT xs i ++ [c2 x])[1]? = some (c2 (sumL (xs.take i))) := rfl
      have r1 := rd_c2 hrow
      have t1 := rd_c2 htot
      have nw := new_c2 (sl := slotsT xs i) (x := x)
      have w1 := wr0_c2 (y := (sumL (xs.take i)).1 + x.1) htot
      have htot2 : ((slotsT xs i ++ [c2 x]).set 1 (c2 ((sumL (xs.take i)).1 + x.1, (sumL (xs.take i)).2)))[1]? = some (c2 ((sumL (xs.take i)).1 + x.1, (sumL (xs.take i)).2)) := rfl
      have w2 := wr1_c2 (y := (sumL (xs.take i)).2 + x.2) htot2
      rw [List.set_set, slotsT_succ hget] at w2
      have hg1 : 0 ≤ (i : Int) ∧ (i : Int) < (xs.length : Int) := by omega
      unfold mix_total.loop1
      simp -implicitDefEqProofs only [Int.toNat_natCast, rowSV_len, reserve0, guardO_pos hg1]
      rw [decide_eq_true hg1.2, cond_true, rds_rowF (ls := j2) (w := 2) rfl (by omega) rfl, hget]
      simp -implicitDefEqProofs only [Option.bind_some, hL_new, hL_next, List.length_cons, List.length_nil, Nat.zero_add]
      rw [nw]
      simp -implicitDefEqProofs only [Option.bind_some, r1.1, r1.2, t1.1, t1.2]
      rw [i64_in _ (by omega), i64_in _ (by omega), w1]
      simp -implicitDefEqProofs only [Option.bind_some]
      rw [w2]
      simp -implicitDefEqProofs only [Option.bind_some]
      rw [guardO_pos (p := apartA _ _ = true) (by rw [hlen]; rfl), i64_succ (by omega)]
    · unfold mix_total.loop1
      simp -implicitDefEqProofs only [rowSV_len]
      rw [decide_eq_false (by omega), cond_false]
  simp only [c2] at hloop
  rw [hloop]
  have e0 : (slotsT xs xs.length)[0]? = some (c2 (0, 0)) := rfl
  have e1 : (slotsT xs xs.length)[1]? = some (c2 (sumL xs)) := by rw [slotsT, List.take_length]; rfl
  have w0 := wrs_c2 (y := sumL xs) e0
  have e2 : ((slotsT xs xs.length).set 0 (c2 (sumL xs)))[0]? = some (c2 (sumL xs)) := rfl
  simp -implicitDefEqProofs only [Option.bind_some, (rd_c2 e1).1, (rd_c2 e1).2]
  rw [w0]
  simp -implicitDefEqProofs only [Option.bind_some]
  rw [rds_c2 e2]
  simp -implicitDefEqProofs only [evs, reduceIte, rdRes, rdTT, rdTy, rdLT, Res.un, TT.un, Ty.un, LT.un, Leaf.un, Leaf.plain, LT.plain]
def sumOf (xs : List (Int × Int)) : (Int × Int) × Int :=
  if 8 < xs.length then ((0, 0), 8) else if xs.any (fun x => !isPlain x) = true then ((0, 0), 1) else if isPlain (sumL xs) = true then (sumL xs, 0) else ((0, 0), 15)
theorem Sum_ok (xs : List (Int × Int)) (hl : xs.length < 2 ^ 63) : mix_SumP xs = some (sumOf xs) := by
  unfold mix_SumP mix_Sum sumOf
  simp -implicitDefEqProofs only [evs, reduceIte, rdRes, rdTT, rdTy, rdLT, Res.un, TT.un, Ty.un, LT.un, Leaf.un, Leaf.plain, LT.plain, hL_empty, hL_new, hL_next, List.length_nil, List.nil_append, List.length_cons, Nat.zero_add, List.cons_append]
  have e0 : [c2 (0, 0)][0]? = some (c2 (0, 0)) := rfl
  have w0 := wrs_c2 (y := (0, 0)) e0
  have r0 := rds_c2 e0
  simp only [List.set_cons_zero, c2] at w0 r0
  by_cases h8 : 8 < xs.length
  · rw [if_pos h8, decide_eq_true (show (8 : Int) < (xs.length : Int) by omega)]
    simp -implicitDefEqProofs only [evs, reduceIte, rdRes, rdTT, rdTy, rdLT, Res.un, TT.un, Ty.un, LT.un, Leaf.un, Leaf.plain, LT.plain]
    rw [w0]
    simp -implicitDefEqProofs only [evs, reduceIte, rdRes, rdTT, rdTy, rdLT, Res.un, TT.un, Ty.un, LT.un, Leaf.un, Leaf.plain, LT.plain]
    rw [r0]
    simp -implicitDefEqProofs only [evs, reduceIte, rdRes, rdTT, rdTy, rdLT, Res.un, TT.un, Ty.un, LT.un, Leaf.un, Leaf.plain, LT.plain]
  · rw [if_neg h8, decide_eq_false (show ¬ (8 : Int) < (xs.length : Int) by omega)]
    simp -implicitDefEqProofs only [evs, reduceIte, rdRes, rdTT, rdTy, rdLT, Res.un, TT.un, Ty.un, LT.un, Leaf.un, Leaf.plain, LT.plain]
    rw [ContainsFunc_liq (fun x => !isPlain x) hl (fun x hx R k => by
      obtain ⟨a, v⟩ := x
      show (mix_Sum_1P (a, v)).bind (fun r => k ((Res.one (.leaf .bool)).lo true r) _) = _
      rw [sum1_ok]; rfl)]
    simp -implicitDefEqProofs only [evs, reduceIte, rdRes, rdTT, rdTy, rdLT, Res.un, TT.un, Ty.un, LT.un, Leaf.un, Leaf.plain, LT.plain]
    cases hany : xs.any (fun x => !isPlain x) with
    | true =>
      simp -implicitDefEqProofs only [evs, reduceIte, rdRes, rdTT, rdTy, rdLT, Res.un, TT.un, Ty.un, LT.un, Leaf.un, Leaf.plain, LT.plain]
      rw [w0]
      simp -implicitDefEqProofs only [evs, reduceIte, rdRes, rdTT, rdTy, rdLT, Res.un, TT.un, Ty.un, LT.un, Leaf.un, Leaf.plain, LT.plain]
      rw [r0]
      simp -implicitDefEqProofs only [evs, reduceIte, rdRes, rdTT, rdTy, rdLT, Res.un, TT.un, Ty.un, LT.un, Leaf.un, Leaf.plain, LT.plain]
    | false =>
      have hp : ∀ x ∈ xs, isPlain x = true := fun x hx => by
        have := List.any_eq_false.1 hany x hx
        simpa using this
      simp -implicitDefEqProofs only [evs, reduceIte, rdRes, rdTT, rdTy, rdLT, Res.un, TT.un, Ty.un, LT.un, Leaf.un, Leaf.plain, LT.plain, Bool.false_eq_true]
      rw [total_ok (by omega) hp]
      generalize sumL xs = s
      obtain ⟨s1, s2⟩ := s
      simp -implicitDefEqProofs only [evs, reduceIte, rdRes, rdTT, rdTy, rdLT, Res.un, TT.un, Ty.un, LT.un, Leaf.un, Leaf.plain, LT.plain, evh, List.replicate, splice, LT.pack, Leaf.pack, Nat.reduceAdd, Nat.reduceSub, Nat.reduceLeDiff, Nat.reduceLT, Nat.reduceEqDiff, LT.lo, Leaf.lo]
      rw [plain_ok]
      simp -implicitDefEqProofs only [evs, reduceIte, rdRes, rdTT, rdTy, rdLT, Res.un, TT.un, Ty.un, LT.un, Leaf.un, Leaf.plain, LT.plain, evh, List.replicate, splice, LT.pack, Leaf.pack, Nat.reduceAdd, Nat.reduceSub, Nat.reduceLeDiff, Nat.reduceLT, Nat.reduceEqDiff, LT.lo, Leaf.lo]
      cases isPlain (s1, s2) with
      | true => simp -implicitDefEqProofs only [evs, reduceIte, rdRes, rdTT, rdTy, rdLT, Res.un, TT.un, Ty.un, LT.un, Leaf.un, Leaf.plain, LT.plain, evh, List.replicate, splice, LT.pack, Leaf.pack, Nat.reduceAdd, Nat.reduceSub, Nat.reduceLeDiff, Nat.reduceLT, Nat.reduceEqDiff, LT.lo, Leaf.lo]
      | false => simp -implicitDefEqProofs only [evs, reduceIte, rdRes, rdTT, rdTy, rdLT, Res.un, TT.un, Ty.un, LT.un, Leaf.un, Leaf.plain, LT.plain, evh, List.replicate, splice, LT.pack, Leaf.pack, Nat.reduceAdd, Nat.reduceSub, Nat.reduceLeDiff, Nat.reduceLT, Nat.reduceEqDiff, LT.lo, Leaf.lo]; rfl
end Go.Proofs.Ytaepkinihaipkaa
/- What package density computes: the fault at a place, the check of a table. Conditions: those of each law. -/
namespace Go.Proofs.Ytaepkinihaipkaa
open Go Go.Proofs.Ytaepkinihaipkaa.Ev
set_option linter.unusedVariables false
set_option linter.unusedSimpArgs false
set_option maxRecDepth 100000
set_option maxHeartbeats 4000000
/-- An entry of a table. -/
def q2 (xs : List (Int × Int)) (i : Nat) : Int × Int := xs[i]?.getD (0, 0)
theorem q2_some {xs : List (Int × Int)} {i : Nat} (h : i < xs.length) : xs[i]? = some (q2 xs i) := by
  unfold q2
  rw [List.getElem?_eq_getElem h]
  rfl
def okPt (x : Int × Int) : Bool := decide (0 ≤ x.1 ∧ x.1 ≤ 10000 ∧ 50000 ≤ x.2 ∧ x.2 ≤ 120000)
def faultOf (xs : List (Int × Int)) (i : Nat) : Int :=
  if okPt (q2 xs i) = true then (if 0 < i ∧ (q2 xs i).1 ≤ (q2 xs (i - 1)).1 then 5 else if 0 < i ∧ (q2 xs (i - 1)).2 < (q2 xs i).2 then 18 else 0) else 2
theorem rd_q2 {f : Bool} {xs : List (Int × Int)} {i : Nat} {h : H} (hi : i < xs.length) : rdT (.leaf (.int .i64)) h (((rowSV f j2 xs).a.add (i * 2)).add 0) = some (q2 xs i).1 ∧ rdT (.leaf (.int .i64)) h (((rowSV f j2 xs).a.add (i * 2)).add 1) = some (q2 xs i).2 := by
  refine ⟨?_, ?_⟩ <;> (rw [add_add, rd_row (ls := j2) (w := 2) rfl (by omega), q2_some hi]; rfl)
theorem nn_q2 {f : Bool} {xs : List (Int × Int)} {i : Nat} (hi : i < xs.length) : V.nn ((rowSV f j2 xs).a.add (i * 2)) = true := nn_row (by omega) (by simp)
theorem bad_code {x1 x2 : Int} {h : H} : (bif !(decide (x1 < 0)) then (bif !(decide ((10000 : Int) < x1)) then (bif !(decide (x2 < 50000)) then some (decide ((120000 : Int) < x2), h) else some (true, h)) else some (true, h)) else some (true, h) : Option (Bool × H)) = some (!okPt (x1, x2), h) := by
  unfold okPt
  by_cases h1 : x1 < 0
  · rw [decide_eq_true h1, decide_eq_false (p := _ ∧ _) (by simp only; omega)]; rfl
  · rw [decide_eq_false h1]
    by_cases h2 : (10000 : Int) < x1
    · rw [decide_eq_true h2, decide_eq_false (p := _ ∧ _) (by simp only; omega)]; rfl
    · rw [decide_eq_false h2]
      by_cases h3 : x2 < 50000
      · rw [decide_eq_true h3, decide_eq_false (p := _ ∧ _) (by simp only; omega)]; rfl
      · rw [decide_eq_false h3]
        by_cases h4 : (120000 : Int) < x2
        · rw [decide_eq_true h4, decide_eq_false (p := _ ∧ _) (by simp only; omega)]; rfl
        · rw [decide_eq_false h4, decide_eq_true (p := _ ∧ _) (by simp only; omega)]; rfl
theorem fault_ok {xs : List (Int × Int)} {i : Nat} (hi : i < xs.length) (hl : xs.length < 2 ^ 62) : density_faultP xs (i : Int) = some (faultOf xs i) := by
  unfold density_faultP density_fault faultOf
  have hg : 0 ≤ (i : Int) ∧ (i : Int) < (xs.length : Int) := by omega
  have e0 : [c2 (q2 xs i)][0]? = some (c2 (q2 xs i)) := rfl
  have r0 := rd_c2 e0
  have n0 := new_c2 (sl := []) (x := q2 xs i)
  simp only [c2, List.nil_append, List.length_nil] at r0 n0
  simp -implicitDefEqProofs only [rowSV_len, Int.toNat_natCast, guardO_pos hg, hL_empty, hL_next, hL_new, List.nil_append, List.length_nil]
  rw [rds_rowF (ls := j2) (w := 2) rfl (by omega) rfl, q2_some hi]
  simp -implicitDefEqProofs only [evs, reduceIte, rdRes, rdTT, rdTy, rdLT, Res.un, TT.un, Ty.un, LT.un, Leaf.un, Leaf.plain, LT.plain]
  rw [n0]
  simp -implicitDefEqProofs only [evs, reduceIte, rdRes, rdTT, rdTy, rdLT, Res.un, TT.un, Ty.un, LT.un, Leaf.un, Leaf.plain, LT.plain, r0.1, r0.2, reserve0]
  rw [bad_code]
  simp -implicitDefEqProofs only [evs, reduceIte, rdRes, rdTT, rdTy, rdLT, Res.un, TT.un, Ty.un, LT.un, Leaf.un, Leaf.plain, LT.plain]
  cases hok : okPt (q2 xs i) with
  | false => simp -implicitDefEqProofs only [evs, reduceIte, rdRes, rdTT, rdTy, rdLT, Res.un, TT.un, Ty.un, LT.un, Leaf.un, Leaf.plain, LT.plain, Bool.false_eq_true]
  | true =>
    simp -implicitDefEqProofs only [evs, reduceIte, rdRes, rdTT, rdTy, rdLT, Res.un, TT.un, Ty.un, LT.un, Leaf.un, Leaf.plain, LT.plain]
    by_cases h0 : 0 < i
    · have hi1 : (i : Int) - 1 = ((i - 1 : Nat) : Int) := by omega
      have hg1 : 0 ≤ ((i - 1 : Nat) : Int) ∧ ((i - 1 : Nat) : Int) < (xs.length : Int) := by omega
      have hn := nn_q2 (f := false) (xs := xs) (i := i - 1) (by omega)
      rw [decide_eq_true (show (0 : Int) < (i : Int) by omega), hi1, i64_nat (by omega)]
      simp -implicitDefEqProofs only [evs, reduceIte, rdRes, rdTT, rdTy, rdLT, Res.un, TT.un, Ty.un, LT.un, Leaf.un, Leaf.plain, LT.plain, r0.1, r0.2, guardO_pos hg1, Int.toNat_natCast, guardO_pos hn, (rd_q2 (f := false) (xs := xs) (i := i - 1) (h := hL [.own [.int .i64 (q2 xs i).1, .int .i64 (q2 xs i).2] 2]) (by omega)).1]
      by_cases h1 : (q2 xs i).1 ≤ (q2 xs (i - 1)).1
      · rw [decide_eq_true h1, if_pos ⟨h0, h1⟩]
        simp -implicitDefEqProofs only [evs, reduceIte, rdRes, rdTT, rdTy, rdLT, Res.un, TT.un, Ty.un, LT.un, Leaf.un, Leaf.plain, LT.plain]
      · rw [decide_eq_false h1, if_neg (by omega)]
        simp -implicitDefEqProofs only [evs, reduceIte, rdRes, rdTT, rdTy, rdLT, Res.un, TT.un, Ty.un, LT.un, Leaf.un, Leaf.plain, LT.plain, r0.1, r0.2, guardO_pos hg1, Int.toNat_natCast, guardO_pos hn, (rd_q2 (f := false) (xs := xs) (i := i - 1) (h := hL [.own [.int .i64 (q2 xs i).1, .int .i64 (q2 xs i).2] 2]) (by omega)).2]
        by_cases h2 : (q2 xs (i - 1)).2 < (q2 xs i).2
        · rw [decide_eq_true h2, if_pos ⟨h0, h2⟩]
          simp -implicitDefEqProofs only [evs, reduceIte, rdRes, rdTT, rdTy, rdLT, Res.un, TT.un, Ty.un, LT.un, Leaf.un, Leaf.plain, LT.plain]
        · rw [decide_eq_false h2, if_neg (by omega)]
          simp -implicitDefEqProofs only [evs, reduceIte, rdRes, rdTT, rdTy, rdLT, Res.un, TT.un, Ty.un, LT.un, Leaf.un, Leaf.plain, LT.plain]
    · rw [decide_eq_false (show ¬ (0 : Int) < (i : Int) by omega), if_neg (by omega), if_neg (by omega)]
      simp -implicitDefEqProofs only [evs, reduceIte, rdRes, rdTT, rdTy, rdLT, Res.un, TT.un, Ty.un, LT.un, Leaf.un, Leaf.plain, LT.plain]
end Go.Proofs.Ytaepkinihaipkaa
/- What density.Check computes. Conditions: those of each law. -/
namespace Go.Proofs.Ytaepkinihaipkaa
open Go Go.Proofs.Ytaepkinihaipkaa.Ev
set_option linter.unusedVariables false
set_option linter.unusedSimpArgs false
set_option maxRecDepth 100000
set_option maxHeartbeats 4000000
def firstBad (xs : List (Int × Int)) : Option Nat := (List.range xs.length).find? fun i => !decide (faultOf xs i = 0)
def checkOf (xs : List (Int × Int)) : Int × Int :=
  if 128 < xs.length then (-1, 8) else if xs.length < 2 then (-1, 9) else
    match firstBad xs with
    | some i => ((i : Int), faultOf xs i)
    | none => if (q2 xs 0).1 ≠ 0 then (0, 10) else if (q2 xs (xs.length - 1)).1 ≠ 10000 then (((xs.length - 1 : Nat) : Int), 10) else (-1, 0)
theorem check_loop {xs : List (Int × Int)} (hl : xs.length ≤ 128) : iter FUEL (density_Check.loop1 (rowSV false j2 xs)) (0, H.empty) = some (match firstBad xs with | some i => (.ret ((i : Int), faultOf xs i), H.empty) | none => (.ex0 (), H.empty)) := by
  have hs := iter_scan (f := density_Check.loop1 (rowSV false j2 xs)) (y := (.ex0 (), H.empty))
    (fun i => if faultOf xs i = 0 then none else some (.ret ((i : Int), faultOf xs i), H.empty)) xs.length (fun i => ((i : Int), H.empty)) FUEL (fun i hi => ?_) ?_ (fuel_gt (by omega))
  · have hz : ((0 : Nat) : Int) = 0 := rfl
    simp only [hz] at hs
    rw [hs]
    unfold firstBad
    have key : ∀ (l : List Nat), (l.findSome? fun i => if faultOf xs i = 0 then none else some ((.ret ((i : Int), faultOf xs i), H.empty) : Flow Unit (Int × Int) × H)) = (l.find? fun i => !decide (faultOf xs i = 0)).map fun i => (.ret ((i : Int), faultOf xs i), H.empty) := fun l => by
      induction l with
      | nil => rfl
      | cons a l ih =>
        rw [List.findSome?_cons, List.find?_cons]
        by_cases h : faultOf xs a = 0
        · rw [if_pos h, decide_eq_true h]
          exact ih
        · rw [if_neg h, decide_eq_false h]
          rfl
    rw [key]
    cases (List.range xs.length).find? fun i => !decide (faultOf xs i = 0) <;> rfl
  · unfold density_Check.loop1
    simp -implicitDefEqProofs only [rowSV_len, rdRow_args]
    rw [decide_eq_true (show (i : Int) < (xs.length : Int) by omega), cond_true]
    simp -implicitDefEqProofs only [evs, reduceIte, rdRes, rdTT, rdTy, rdLT, Res.un, TT.un, Ty.un, LT.un, Leaf.un, Leaf.plain, LT.plain]
    rw [fault_ok hi (by omega)]
    simp -implicitDefEqProofs only [evs, reduceIte, rdRes, rdTT, rdTy, rdLT, Res.un, TT.un, Ty.un, LT.un, Leaf.un, Leaf.plain, LT.plain]
    by_cases h : faultOf xs i = 0
    · rw [decide_eq_true h, if_pos h]
      simp -implicitDefEqProofs only [evs, reduceIte, rdRes, rdTT, rdTy, rdLT, Res.un, TT.un, Ty.un, LT.un, Leaf.un, Leaf.plain, LT.plain]
      rw [i64_succ (by omega)]
    · rw [decide_eq_false h, if_neg h]
      simp -implicitDefEqProofs only [evs, reduceIte, rdRes, rdTT, rdTy, rdLT, Res.un, TT.un, Ty.un, LT.un, Leaf.un, Leaf.plain, LT.plain]
  · unfold density_Check.loop1
    simp -implicitDefEqProofs only [rowSV_len]
    rw [decide_eq_false (by omega), cond_false]
theorem DCheck_ok (xs : List (Int × Int)) : density_CheckP xs = some (checkOf xs) := by
  unfold density_CheckP density_Check checkOf
  simp -implicitDefEqProofs only [evs, reduceIte, rdRes, rdTT, rdTy, rdLT, Res.un, TT.un, Ty.un, LT.un, Leaf.un, Leaf.plain, LT.plain]
  by_cases h1 : 128 < xs.length
  · rw [if_pos h1, decide_eq_true (show (128 : Int) < (xs.length : Int) by omega)]
    simp -implicitDefEqProofs only [evs, reduceIte, rdRes, rdTT, rdTy, rdLT, Res.un, TT.un, Ty.un, LT.un, Leaf.un, Leaf.plain, LT.plain]
  · rw [if_neg h1, decide_eq_false (show ¬ (128 : Int) < (xs.length : Int) by omega)]
    simp -implicitDefEqProofs only [evs, reduceIte, rdRes, rdTT, rdTy, rdLT, Res.un, TT.un, Ty.un, LT.un, Leaf.un, Leaf.plain, LT.plain]
    by_cases h2 : xs.length < 2
    · rw [if_pos h2, decide_eq_true (show (xs.length : Int) < 2 by omega)]
      simp -implicitDefEqProofs only [evs, reduceIte, rdRes, rdTT, rdTy, rdLT, Res.un, TT.un, Ty.un, LT.un, Leaf.un, Leaf.plain, LT.plain]
    · rw [if_neg h2, decide_eq_false (show ¬ (xs.length : Int) < 2 by omega)]
      simp -implicitDefEqProofs only [evs, reduceIte, rdRes, rdTT, rdTy, rdLT, Res.un, TT.un, Ty.un, LT.un, Leaf.un, Leaf.plain, LT.plain]
      rw [check_loop (by omega)]
      cases firstBad xs with
      | some i => simp -implicitDefEqProofs only [evs, reduceIte, rdRes, rdTT, rdTy, rdLT, Res.un, TT.un, Ty.un, LT.un, Leaf.un, Leaf.plain, LT.plain]
      | none =>
        have hz : 0 ≤ (0 : Int) ∧ (0 : Int) < (xs.length : Int) := by omega
        have hi1 : (xs.length : Int) - 1 = ((xs.length - 1 : Nat) : Int) := by omega
        have hg1 : 0 ≤ ((xs.length - 1 : Nat) : Int) ∧ ((xs.length - 1 : Nat) : Int) < (xs.length : Int) := by omega
        have hn0 := nn_q2 (f := false) (xs := xs) (i := 0) (by omega)
        have hr0 := (rd_q2 (f := false) (xs := xs) (i := 0) (h := H.empty) (by omega)).1
        have hn1 := nn_q2 (f := false) (xs := xs) (i := xs.length - 1) (by omega)
        have hr1 := (rd_q2 (f := false) (xs := xs) (i := xs.length - 1) (h := H.empty) (by omega)).1
        rw [Nat.zero_mul] at hn0 hr0
        simp -implicitDefEqProofs only [evs, reduceIte, rdRes, rdTT, rdTy, rdLT, Res.un, TT.un, Ty.un, LT.un, Leaf.un, Leaf.plain, LT.plain]
        rw [guardO_pos hz, guardO_pos hn0, hr0]
        simp -implicitDefEqProofs only [evs, reduceIte, rdRes, rdTT, rdTy, rdLT, Res.un, TT.un, Ty.un, LT.un, Leaf.un, Leaf.plain, LT.plain]
        by_cases h3 : (q2 xs 0).1 = 0
        · rw [decide_eq_true h3, if_neg (by omega)]
          simp -implicitDefEqProofs only [evs, reduceIte, rdRes, rdTT, rdTy, rdLT, Res.un, TT.un, Ty.un, LT.un, Leaf.un, Leaf.plain, LT.plain]
          rw [hi1, i64_nat (by omega)]
          simp -implicitDefEqProofs only [Int.toNat_natCast]
          rw [guardO_pos hg1, guardO_pos hn1, hr1]
          simp -implicitDefEqProofs only [evs, reduceIte, rdRes, rdTT, rdTy, rdLT, Res.un, TT.un, Ty.un, LT.un, Leaf.un, Leaf.plain, LT.plain]
          by_cases h4 : (q2 xs (xs.length - 1)).1 = 10000
          · rw [decide_eq_true h4, if_neg (by omega)]
            simp -implicitDefEqProofs only [evs, reduceIte, rdRes, rdTT, rdTy, rdLT, Res.un, TT.un, Ty.un, LT.un, Leaf.un, Leaf.plain, LT.plain]
          · rw [decide_eq_false h4, if_pos h4]
            simp -implicitDefEqProofs only [evs, reduceIte, rdRes, rdTT, rdTy, rdLT, Res.un, TT.un, Ty.un, LT.un, Leaf.un, Leaf.plain, LT.plain]
        · rw [decide_eq_false h3, if_pos h3]
          simp -implicitDefEqProofs only [evs, reduceIte, rdRes, rdTT, rdTy, rdLT, Res.un, TT.un, Ty.un, LT.un, Leaf.un, Leaf.plain, LT.plain]
/-- A right table. -/
structure Table2 (xs : List (Int × Int)) : Prop where
  two : 2 ≤ xs.length
  most : xs.length ≤ 128
  ok : ∀ i, i < xs.length → okPt (q2 xs i) = true
  up : ∀ i, i + 1 < xs.length → (q2 xs i).1 < (q2 xs (i + 1)).1
  down : ∀ i, i + 1 < xs.length → (q2 xs (i + 1)).2 ≤ (q2 xs i).2
  first : (q2 xs 0).1 = 0
  last : (q2 xs (xs.length - 1)).1 = 10000
theorem check_table {xs : List (Int × Int)} (h : (checkOf xs).2 = 0) : Table2 xs := by
  unfold checkOf at h
  by_cases h1 : 128 < xs.length
  · rw [if_pos h1] at h; simp at h
  · rw [if_neg h1] at h
    by_cases h2 : xs.length < 2
    · rw [if_pos h2] at h; simp at h
    · rw [if_neg h2] at h
      cases hf : firstBad xs with
      | some i =>
        rw [hf] at h
        have := List.find?_some hf
        simp only at h
        rw [h] at this
        simp at this
      | none =>
        rw [hf] at h
        have hno : ∀ i, i < xs.length → faultOf xs i = 0 := fun i hi => by
          have := List.find?_eq_none.1 hf i (List.mem_range.2 hi)
          simpa using this
        have hok : ∀ i, i < xs.length → okPt (q2 xs i) = true := fun i hi => by
          have := hno i hi
          unfold faultOf at this
          cases hp : okPt (q2 xs i) with
          | true => rfl
          | false => rw [hp] at this; simp at this
        have hstep : ∀ i, i + 1 < xs.length → (q2 xs i).1 < (q2 xs (i + 1)).1 ∧ (q2 xs (i + 1)).2 ≤ (q2 xs i).2 := fun i hi => by
          have := hno (i + 1) hi
          unfold faultOf at this
          rw [if_pos (hok _ hi), Nat.add_sub_cancel] at this
          by_cases c1 : 0 < i + 1 ∧ (q2 xs (i + 1)).1 ≤ (q2 xs i).1
          · rw [if_pos c1] at this; simp at this
          · rw [if_neg c1] at this
            by_cases c2 : 0 < i + 1 ∧ (q2 xs i).2 < (q2 xs (i + 1)).2
            · rw [if_pos c2] at this; simp at this
            · omega
        simp only at h
        by_cases h3 : (q2 xs 0).1 ≠ 0
        · rw [if_pos h3] at h; simp at h
        · rw [if_neg h3] at h
          by_cases h4 : (q2 xs (xs.length - 1)).1 ≠ 10000
          · rw [if_pos h4] at h; simp at h
          · exact ⟨by omega, by omega, hok, fun i hi => (hstep i hi).1, fun i hi => (hstep i hi).2, by omega, by omega⟩
end Go.Proofs.Ytaepkinihaipkaa
/- What package interpolate computes: a table's density at a grade. Conditions: those of each law. -/
namespace Go.Proofs.Ytaepkinihaipkaa
open Go Go.Proofs.Ytaepkinihaipkaa.Ev
set_option linter.unusedVariables false
set_option linter.unusedSimpArgs false
set_option maxRecDepth 100000
set_option maxHeartbeats 4000000
/-- Between two entries, rounded. -/
def lineOf (x y : Int × Int) (t : Int) : Int := (2 * (x.2 * (y.1 - t) + y.2 * (t - x.1)) + (y.1 - x.1)) / (2 * (y.1 - x.1))
theorem okPt_iff {x : Int × Int} : okPt x = true ↔ 0 ≤ x.1 ∧ x.1 ≤ 10000 ∧ 50000 ≤ x.2 ∧ x.2 ≤ 120000 := by simp [okPt]
theorem line_num {x y : Int × Int} {t : Int} (hx : okPt x = true) (hy : okPt y = true) (h0 : x.1 ≤ t) (h1 : t ≤ y.1) :
    0 ≤ x.2 * (y.1 - t) ∧ x.2 * (y.1 - t) ≤ 120000 * 10000 ∧ 0 ≤ y.2 * (t - x.1) ∧ y.2 * (t - x.1) ≤ 120000 * 10000 := by
  rw [okPt_iff] at hx hy
  exact ⟨Int.mul_nonneg (by omega) (by omega), Int.mul_le_mul (by omega) (by omega) (by omega) (by omega), Int.mul_nonneg (by omega) (by omega), Int.mul_le_mul (by omega) (by omega) (by omega) (by omega)⟩
theorem between_ok {x y : Int × Int} {t : Int} (hx : okPt x = true) (hy : okPt y = true) (hlt : x.1 < y.1) (h0 : x.1 ≤ t) (h1 : t ≤ y.1) : interpolate_betweenP x y t = some (lineOf x y t) := by
  have hb := line_num hx hy h0 h1
  rw [okPt_iff] at hx hy
  obtain ⟨x1, x2⟩ := x
  obtain ⟨y1, y2⟩ := y
  simp only at hx hy hlt h0 h1 hb
  unfold interpolate_betweenP interpolate_between lineOf
  simp -implicitDefEqProofs only [evs, reduceIte, rdRes, rdTT, rdTy, rdLT, Res.un, TT.un, Ty.un, LT.un, Leaf.un, Leaf.plain, LT.plain, evh, List.replicate, splice, LT.pack, Leaf.pack, Nat.reduceAdd, Nat.reduceSub, Nat.reduceLeDiff, Nat.reduceLT, Nat.reduceEqDiff, LT.lo, Leaf.lo]
  rw [i64_in (y1 - x1) (by omega), i64_in (y1 - t) (by omega), i64_in (t - x1) (by omega), i64_in (x2 * (y1 - t)) (by omega), i64_in (y2 * (t - x1)) (by omega), i64_in (x2 * (y1 - t) + y2 * (t - x1)) (by omega), i64_in (2 * (y1 - x1)) (by omega),
    i64_in (2 * (x2 * (y1 - t) + y2 * (t - x1))) (by omega), i64_in (2 * (x2 * (y1 - t) + y2 * (t - x1)) + (y1 - x1)) (by omega), guardO_pos (by omega)]
  rw [Int.tdiv_eq_ediv_of_nonneg (by omega)]
  have k1 : 0 ≤ (2 * (x2 * (y1 - t) + y2 * (t - x1)) + (y1 - x1)) / (2 * (y1 - x1)) := Int.ediv_nonneg (by omega) (by omega)
  have k2 : (2 * (x2 * (y1 - t) + y2 * (t - x1)) + (y1 - x1)) / (2 * (y1 - x1)) ≤ 2 * (x2 * (y1 - t) + y2 * (t - x1)) + (y1 - x1) := Int.ediv_le_self _ (by omega)
  rw [i64_in _ (by omega)]
  simp -implicitDefEqProofs only [evs, reduceIte, rdRes, rdTT, rdTy, rdLT, Res.un, TT.un, Ty.un, LT.un, Leaf.un, Leaf.plain, LT.plain]
/-- Both ends bound the line, and it does not rise. -/
theorem line_bound {x y : Int × Int} {t : Int} (hlt : x.1 < y.1) (hd : y.2 ≤ x.2) (h0 : x.1 ≤ t) (h1 : t ≤ y.1) : y.2 ≤ lineOf x y t ∧ lineOf x y t ≤ x.2 := by
  obtain ⟨x1, x2⟩ := x
  obtain ⟨y1, y2⟩ := y
  simp only at *
  unfold lineOf
  simp only
  have a1 : y2 * (y1 - t) ≤ x2 * (y1 - t) := Int.mul_le_mul_of_nonneg_right hd (by omega)
  have a2 : y2 * (t - x1) ≤ x2 * (t - x1) := Int.mul_le_mul_of_nonneg_right hd (by omega)
  have e1 : y2 * (y1 - t) + y2 * (t - x1) = y2 * (y1 - x1) := by rw [← Int.mul_add]; congr 1; omega
  have e2 : x2 * (y1 - t) + x2 * (t - x1) = x2 * (y1 - x1) := by rw [← Int.mul_add]; congr 1; omega
  have e3 : y2 * (2 * (y1 - x1)) = 2 * (y2 * (y1 - x1)) := Int.mul_left_comm ..
  have e4 : x2 * (2 * (y1 - x1)) = 2 * (x2 * (y1 - x1)) := Int.mul_left_comm ..
  constructor
  · rw [Int.le_ediv_iff_mul_le (by omega)]
    omega
  · have : (2 * (x2 * (y1 - t) + y2 * (t - x1)) + (y1 - x1)) / (2 * (y1 - x1)) < x2 + 1 := by
      rw [Int.ediv_lt_iff_lt_mul (by omega), Int.add_mul]
      omega
    omega
theorem line_down {x y : Int × Int} {s t : Int} (hlt : x.1 < y.1) (hd : y.2 ≤ x.2) (h : s ≤ t) : lineOf x y t ≤ lineOf x y s := by
  obtain ⟨x1, x2⟩ := x
  obtain ⟨y1, y2⟩ := y
  simp only at *
  unfold lineOf
  simp only
  refine Int.ediv_le_ediv (by omega) ?_
  have a1 : y2 * (t - s) ≤ x2 * (t - s) := Int.mul_le_mul_of_nonneg_right hd (by omega)
  have e1 : x2 * (y1 - s) = x2 * (y1 - t) + x2 * (t - s) := by rw [← Int.mul_add]; congr 1; omega
  have e2 : y2 * (t - x1) = y2 * (s - x1) + y2 * (t - s) := by rw [← Int.mul_add]; congr 1; omega
  omega
/-- The first place of a table that is not below a grade. -/
def place (xs : List (Int × Int)) (t : Int) : Nat := (List.range xs.length).findIdx fun k => decide (t ≤ (q2 xs k).1)
theorem up_le {xs : List (Int × Int)} (h : Table2 xs) : ∀ (j i : Nat), i ≤ j → j < xs.length → (q2 xs i).1 ≤ (q2 xs j).1
  | 0, i, hi, hj => by have : i = 0 := by omega
                       subst this; exact Int.le_refl _
  | j + 1, i, hi, hj => by
    by_cases e : i = j + 1
    · subst e; exact Int.le_refl _
    · have := up_le h j i (by omega) (by omega)
      have := h.up j hj
      omega
theorem down_le {xs : List (Int × Int)} (h : Table2 xs) : ∀ (j i : Nat), i ≤ j → j < xs.length → (q2 xs j).2 ≤ (q2 xs i).2
  | 0, i, hi, hj => by have : i = 0 := by omega
                       subst this; exact Int.le_refl _
  | j + 1, i, hi, hj => by
    by_cases e : i = j + 1
    · subst e; exact Int.le_refl _
    · have := down_le h j i (by omega) (by omega)
      have := h.down j hj
      omega
def valOf (xs : List (Int × Int)) (k : Nat) (t : Int) : Int := if (q2 xs k).1 = t then (q2 xs k).2 else lineOf (q2 xs (k - 1)) (q2 xs k) t
theorem at1_ok {xs : List (Int × Int)} {t : Int} {k : Nat} (hk : k < xs.length) :
    interpolate_at_1 (k : Int) (.hp 0 1 0) (.hp 1 1 0) (hL [.own [.slice (rowSV false j2 xs).a xs.length xs.length true] 1, .own [.int .i64 t] 1]) = some (decide (t ≤ (q2 xs k).1), hL [.own [.slice (rowSV false j2 xs).a xs.length xs.length true] 1, .own [.int .i64 t] 1]) := by
  have r0 : rdT (.leaf .slice) (hL [.own [.slice (rowSV false j2 xs).a xs.length xs.length true] 1, .own [.int .i64 t] 1]) (.hp 0 1 0) = some (rowSV false j2 xs) := by
    rw [rd_own (g := 1) (id := 0) rfl rfl]; rfl
  have r1 : rdT (.leaf (.int .i64)) (hL [.own [.slice (rowSV false j2 xs).a xs.length xs.length true] 1, .own [.int .i64 t] 1]) (.hp 1 1 0) = some t := by
    rw [rd_own (g := 1) (id := 1) rfl rfl]; rfl
  have hg : 0 ≤ (k : Int) ∧ (k : Int) < (xs.length : Int) := by omega
  have hn := nn_q2 (f := false) hk
  unfold interpolate_at_1
  simp -implicitDefEqProofs only [reserve0]
  rw [r0]
  simp -implicitDefEqProofs only [evs, reduceIte, rdRes, rdTT, rdTy, rdLT, Res.un, TT.un, Ty.un, LT.un, Leaf.un, Leaf.plain, LT.plain, Int.toNat_natCast, rowSV_len, guardO_pos hg, guardO_pos hn, (rd_q2 (f := false) hk).1, r1]
theorem at_ok {xs : List (Int × Int)} {t : Int} (h : Table2 xs) (h0 : 0 ≤ t) (h1 : t ≤ 10000) :
    ∃ k, k < xs.length ∧ (∀ q, q < k → (q2 xs q).1 < t) ∧ t ≤ (q2 xs k).1 ∧ interpolate_atP xs t = some (valOf xs k t) := by
  have hlen := h.most
  have htwo := h.two
  obtain ⟨m, s1, s2, s3, s4⟩ := Search_ok (T := interpolate_at.tb) (v := .func 85 [.hp 0 1 0, .hp 1 1 0]) (h := hL [.own [.slice (rowSV false j2 xs).a xs.length xs.length true] 1, .own [.int .i64 t] 1]) (n := xs.length) (fun k => decide (t ≤ (q2 xs k).1)) (by omega) (fun a b hab hb ha => by
      have := up_le h b a hab hb
      have ha' := of_decide_eq_true ha
      exact decide_eq_true (by omega)) (fun k hk R K => by
      show (interpolate_at_1 (k : Int) (.hp 0 1 0) (.hp 1 1 0) _).bind (fun p => K (.bool p.1) p.2) = _
      rw [at1_ok hk]
      rfl)
  have hm : m < xs.length := by
    rcases Nat.lt_or_ge m xs.length with h' | h'
    · exact h'
    · have := s3 (xs.length - 1) (by omega)
      simp only [decide_eq_false_iff_not] at this
      rw [h.last] at this
      omega
  have hge : t ≤ (q2 xs m).1 := of_decide_eq_true (s4 m (Nat.le_refl _) hm)
  have hlow : ∀ q, q < m → (q2 xs q).1 < t := fun q hq => by
    have := s3 q hq
    simp only [decide_eq_false_iff_not] at this
    omega
  refine ⟨m, hm, hlow, hge, ?_⟩
  have r0 : rdT (.leaf .slice) (hL [.own [.slice (rowSV false j2 xs).a xs.length xs.length true] 1, .own [.int .i64 t] 1]) (.hp 0 1 0) = some (rowSV false j2 xs) := by
    rw [rd_own (g := 1) (id := 0) rfl rfl]; rfl
  have r1 : rdT (.leaf (.int .i64)) (hL [.own [.slice (rowSV false j2 xs).a xs.length xs.length true] 1, .own [.int .i64 t] 1]) (.hp 1 1 0) = some t := by
    rw [rd_own (g := 1) (id := 1) rfl rfl]; rfl
  have hg : 0 ≤ (m : Int) ∧ (m : Int) < (xs.length : Int) := by omega
  have hn := nn_q2 (f := false) hm
  unfold interpolate_atP interpolate_at valOf
  simp -implicitDefEqProofs only [evs, reduceIte, rdRes, rdTT, rdTy, rdLT, Res.un, TT.un, Ty.un, LT.un, Leaf.un, Leaf.plain, LT.plain, hL_empty, hL_new, hL_next, List.length_nil, List.length_cons, List.nil_append, List.cons_append, Nat.zero_add]
  rw [r0]
  simp -implicitDefEqProofs only [evs, reduceIte, rdRes, rdTT, rdTy, rdLT, Res.un, TT.un, Ty.un, LT.un, Leaf.un, Leaf.plain, LT.plain]
  rw [s1]
  simp -implicitDefEqProofs only [evs, reduceIte, rdRes, rdTT, rdTy, rdLT, Res.un, TT.un, Ty.un, LT.un, Leaf.un, Leaf.plain, LT.plain, Int.toNat_natCast, r0, r1, guardO_pos hg, guardO_pos hn, (rd_q2 (f := false) hm).1, (rd_q2 (f := false) hm).2]
  by_cases he : (q2 xs m).1 = t
  · rw [decide_eq_true he, if_pos he]
    simp -implicitDefEqProofs only [evs, reduceIte, rdRes, rdTT, rdTy, rdLT, Res.un, TT.un, Ty.un, LT.un, Leaf.un, Leaf.plain, LT.plain]
  · rw [decide_eq_false he, if_neg he]
    have hm0 : 0 < m := by
      rcases Nat.eq_zero_or_pos m with h' | h'
      · subst h'
        have := h.first
        omega
      · exact h'
    have hi1 : (m : Int) - 1 = ((m - 1 : Nat) : Int) := by omega
    have hg1 : 0 ≤ ((m - 1 : Nat) : Int) ∧ ((m - 1 : Nat) : Int) < (xs.length : Int) := by omega
    simp -implicitDefEqProofs only [evs, reduceIte, rdRes, rdTT, rdTy, rdLT, Res.un, TT.un, Ty.un, LT.un, Leaf.un, Leaf.plain, LT.plain]
    rw [hi1, i64_nat (by omega)]
    simp -implicitDefEqProofs only [Int.toNat_natCast]
    rw [guardO_pos hg1, rds_rowF (ls := j2) (w := 2) rfl (by omega) rfl, q2_some (i := m - 1) (by omega)]
    simp -implicitDefEqProofs only [evs, reduceIte, rdRes, rdTT, rdTy, rdLT, Res.un, TT.un, Ty.un, LT.un, Leaf.un, Leaf.plain, LT.plain]
    rw [rds_rowF (ls := j2) (w := 2) rfl (by omega) rfl, q2_some hm]
    simp -implicitDefEqProofs only [evs, reduceIte, rdRes, rdTT, rdTy, rdLT, Res.un, TT.un, Ty.un, LT.un, Leaf.un, Leaf.plain, LT.plain]
    have hup := h.up (m - 1) (by omega)
    rw [Nat.sub_add_cancel hm0] at hup
    rw [between_ok (x := q2 xs (m - 1)) (y := q2 xs m) (h.ok _ (by omega)) (h.ok _ hm) hup (by have := hlow (m - 1) (by omega); omega) hge]
    simp -implicitDefEqProofs only [evs, reduceIte, rdRes, rdTT, rdTy, rdLT, Res.un, TT.un, Ty.un, LT.un, Leaf.un, Leaf.plain, LT.plain]
/-- The density of a right table at a grade. -/
noncomputable def dens (xs : List (Int × Int)) (t : Int) : Int := (interpolate_atP xs t).getD 0
theorem dens_ok {xs : List (Int × Int)} {t : Int} (h : Table2 xs) (h0 : 0 ≤ t) (h1 : t ≤ 10000) : interpolate_atP xs t = some (dens xs t) ∧ ∃ k, k < xs.length ∧ (∀ q, q < k → (q2 xs q).1 < t) ∧ t ≤ (q2 xs k).1 ∧ dens xs t = valOf xs k t := by
  obtain ⟨k, k1, k2, k3, k4⟩ := at_ok h h0 h1
  have : dens xs t = valOf xs k t := by unfold dens; rw [k4]; rfl
  exact ⟨by rw [this]; exact k4, k, k1, k2, k3, this⟩
theorem val_bound {xs : List (Int × Int)} {t : Int} {k : Nat} (h : Table2 xs) (h0 : 0 ≤ t) (hk : k < xs.length) (hl : ∀ q, q < k → (q2 xs q).1 < t) (hu : t ≤ (q2 xs k).1) : (q2 xs k).2 ≤ valOf xs k t ∧ valOf xs k t ≤ (q2 xs (k - 1)).2 ∧ ((q2 xs k).1 ≠ t → 0 < k ∧ (q2 xs (k - 1)).1 < (q2 xs k).1 ∧ (q2 xs k).2 ≤ (q2 xs (k - 1)).2) := by
  unfold valOf
  by_cases he : (q2 xs k).1 = t
  · rw [if_pos he]
    exact ⟨Int.le_refl _, down_le h k (k - 1) (by omega) hk, fun hn => absurd he hn⟩
  · rw [if_neg he]
    have hk0 : 0 < k := by
      rcases Nat.eq_zero_or_pos k with h' | h'
      · subst h'
        have := h.first
        omega
      · exact h'
    have hup := h.up (k - 1) (by omega)
    have hdn := h.down (k - 1) (by omega)
    rw [Nat.sub_add_cancel hk0] at hup hdn
    have := hl (k - 1) (by omega)
    have hb := line_bound hup hdn (t := t) (by omega) hu
    exact ⟨hb.1, hb.2, fun _ => ⟨hk0, hup, hdn⟩⟩
theorem dens_bound {xs : List (Int × Int)} {t : Int} (h : Table2 xs) (h0 : 0 ≤ t) (h1 : t ≤ 10000) : 50000 ≤ dens xs t ∧ dens xs t ≤ 120000 := by
  obtain ⟨_, k, k1, k2, k3, k4⟩ := dens_ok h h0 h1
  have hb := val_bound h h0 k1 k2 k3
  have o1 := okPt_iff.1 (h.ok k k1)
  have o2 := okPt_iff.1 (h.ok (k - 1) (by omega))
  omega
theorem dens_down {xs : List (Int × Int)} {s t : Int} (h : Table2 xs) (h0 : 0 ≤ s) (hst : s ≤ t) (h1 : t ≤ 10000) : dens xs t ≤ dens xs s := by
  obtain ⟨_, k, k1, k2, k3, k4⟩ := dens_ok h h0 (show s ≤ 10000 by omega)
  obtain ⟨_, j, j1, j2', j3, j4⟩ := dens_ok h (show 0 ≤ t by omega) h1
  have bk := val_bound h h0 k1 k2 k3
  have bj := val_bound h (show 0 ≤ t by omega) j1 j2' j3
  have hkj : k ≤ j := by
    rcases Nat.lt_or_ge j k with h' | h'
    · have := k2 j h'
      omega
    · exact h'
  rw [k4, j4]
  by_cases e : k = j
  · subst e
    unfold valOf
    by_cases e1 : (q2 xs k).1 = t
    · rw [if_pos e1]
      by_cases e2 : (q2 xs k).1 = s
      · rw [if_pos e2]; exact Int.le_refl _
      · rw [if_neg e2]
        have := bk.1
        unfold valOf at this
        rw [if_neg e2] at this
        exact this
    · rw [if_neg e1, if_neg (by omega)]
      exact line_down (bj.2.2 e1).2.1 (bj.2.2 e1).2.2 hst
  · have := down_le h (j - 1) k (by omega) (by omega)
    omega
theorem Density_ok (xs : List (Int × Int)) (t : Int) : interpolate_DensityP xs t = some (if (checkOf xs).2 = 0 then (if 0 ≤ t ∧ t ≤ 10000 then (dens xs t, 0) else (0, 2)) else (0, 1)) := by
  have hr : interpolate_rightP xs = some (decide ((checkOf xs).2 = 0)) := by
    unfold interpolate_rightP interpolate_right
    simp -implicitDefEqProofs only [evs, reduceIte, rdRes, rdTT, rdTy, rdLT, Res.un, TT.un, Ty.un, LT.un, Leaf.un, Leaf.plain, LT.plain, DCheck_ok]
  unfold interpolate_DensityP interpolate_Density
  simp -implicitDefEqProofs only [evs, reduceIte, rdRes, rdTT, rdTy, rdLT, Res.un, TT.un, Ty.un, LT.un, Leaf.un, Leaf.plain, LT.plain, hr]
  by_cases hc : (checkOf xs).2 = 0
  · rw [decide_eq_true hc, if_pos hc]
    have ht := check_table hc
    simp -implicitDefEqProofs only [evs, reduceIte, rdRes, rdTT, rdTy, rdLT, Res.un, TT.un, Ty.un, LT.un, Leaf.un, Leaf.plain, LT.plain]
    by_cases h0 : t < 0
    · rw [decide_eq_true h0, if_neg (by omega)]
      simp -implicitDefEqProofs only [evs, reduceIte, rdRes, rdTT, rdTy, rdLT, Res.un, TT.un, Ty.un, LT.un, Leaf.un, Leaf.plain, LT.plain]
    · rw [decide_eq_false h0]
      simp -implicitDefEqProofs only [evs, reduceIte, rdRes, rdTT, rdTy, rdLT, Res.un, TT.un, Ty.un, LT.un, Leaf.un, Leaf.plain, LT.plain]
      by_cases h1 : (10000 : Int) < t
      · rw [decide_eq_true h1, if_neg (by omega)]
        simp -implicitDefEqProofs only [evs, reduceIte, rdRes, rdTT, rdTy, rdLT, Res.un, TT.un, Ty.un, LT.un, Leaf.un, Leaf.plain, LT.plain]
      · rw [decide_eq_false h1, if_pos (by omega)]
        simp -implicitDefEqProofs only [evs, reduceIte, rdRes, rdTT, rdTy, rdLT, Res.un, TT.un, Ty.un, LT.un, Leaf.un, Leaf.plain, LT.plain]
        rw [(dens_ok ht (by omega) (by omega)).1]
        simp -implicitDefEqProofs only [evs, reduceIte, rdRes, rdTT, rdTy, rdLT, Res.un, TT.un, Ty.un, LT.un, Leaf.un, Leaf.plain, LT.plain]
  · rw [decide_eq_false hc, if_neg hc]
    simp -implicitDefEqProofs only [evs, reduceIte, rdRes, rdTT, rdTy, rdLT, Res.un, TT.un, Ty.un, LT.un, Leaf.un, Leaf.plain, LT.plain]
end Go.Proofs.Ytaepkinihaipkaa
/- What package alcohol computes: Check, Strength. Conditions: those of each law. -/
namespace Go.Proofs.Ytaepkinihaipkaa
open Go Go.Proofs.Ytaepkinihaipkaa.Ev
set_option linter.unusedVariables false
set_option linter.unusedSimpArgs false
set_option maxRecDepth 100000
set_option maxHeartbeats 4000000
theorem alcof_ok {xs : List (Int × Int)} {t : Int} (hc : (checkOf xs).2 = 0) (h0 : 0 ≤ t) (h1 : t ≤ 10000) : alcohol_ofP xs t = some (dens xs t) := by
  unfold alcohol_ofP alcohol_of
  simp -implicitDefEqProofs only [evs, reduceIte, rdRes, rdTT, rdTy, rdLT, Res.un, TT.un, Ty.un, LT.un, Leaf.un, Leaf.plain, LT.plain, Density_ok]
  rw [if_pos hc, if_pos ⟨h0, h1⟩]
def inA (x : Int × Int) : Bool := decide (0 ≤ x.1 ∧ x.1 ≤ 10737418240000 ∧ 0 ≤ x.2 ∧ x.2 ≤ 128849018880000)
theorem inA_iff {x : Int × Int} : inA x = true ↔ 0 ≤ x.1 ∧ x.1 ≤ 10737418240000 ∧ 0 ≤ x.2 ∧ x.2 ≤ 128849018880000 := by simp [inA]
noncomputable def acheckOf (xs : List (Int × Int)) (x : Int × Int) : Int :=
  if (checkOf xs).2 = 0 then (if inA x = true then (if x.2 * 10000 < x.1 * dens xs 10000 then 10 else 0) else 2) else 1
theorem badA_code {x1 x2 : Int} {h : H} : (bif !(decide (x1 < 0)) then (bif !(decide ((10737418240000 : Int) < x1)) then (bif !(decide (x2 < 0)) then some (decide ((128849018880000 : Int) < x2), h) else some (true, h)) else some (true, h)) else some (true, h) : Option (Bool × H)) = some (!inA (x1, x2), h) := by
  unfold inA
  by_cases h1 : x1 < 0
  · rw [decide_eq_true h1, decide_eq_false (p := _ ∧ _) (by simp only; omega)]; rfl
  · rw [decide_eq_false h1]
    by_cases h2 : (10737418240000 : Int) < x1
    · rw [decide_eq_true h2, decide_eq_false (p := _ ∧ _) (by simp only; omega)]; rfl
    · rw [decide_eq_false h2]
      by_cases h3 : x2 < 0
      · rw [decide_eq_true h3, decide_eq_false (p := _ ∧ _) (by simp only; omega)]; rfl
      · rw [decide_eq_false h3]
        by_cases h4 : (128849018880000 : Int) < x2
        · rw [decide_eq_true h4, decide_eq_false (p := _ ∧ _) (by simp only; omega)]; rfl
        · rw [decide_eq_false h4, decide_eq_true (p := _ ∧ _) (by simp only; omega)]; rfl
theorem mul_small {a d : Int} (ha : 0 ≤ a ∧ a ≤ 10737418240000) (hd : 50000 ≤ d ∧ d ≤ 120000) : 0 ≤ a * d ∧ a * d ≤ 10737418240000 * 120000 := ⟨Int.mul_nonneg ha.1 (by omega), Int.mul_le_mul ha.2 hd.2 (by omega) (by omega)⟩
theorem ACheck_ok (xs : List (Int × Int)) (a v : Int) : alcohol_CheckP xs (a, v) = some (acheckOf xs (a, v)) := by
  unfold alcohol_CheckP alcohol_Check acheckOf
  simp -implicitDefEqProofs only [evs, reduceIte, rdRes, rdTT, rdTy, rdLT, Res.un, TT.un, Ty.un, LT.un, Leaf.un, Leaf.plain, LT.plain, evh, List.replicate, splice, LT.pack, Leaf.pack, Nat.reduceAdd, Nat.reduceSub, Nat.reduceLeDiff, Nat.reduceLT, Nat.reduceEqDiff, LT.lo, Leaf.lo, DCheck_ok]
  by_cases hc : (checkOf xs).2 = 0
  · have ht := check_table hc
    rw [decide_eq_true hc, if_pos hc]
    simp -implicitDefEqProofs only [evs, reduceIte, rdRes, rdTT, rdTy, rdLT, Res.un, TT.un, Ty.un, LT.un, Leaf.un, Leaf.plain, LT.plain, evh, List.replicate, splice, LT.pack, Leaf.pack, Nat.reduceAdd, Nat.reduceSub, Nat.reduceLeDiff, Nat.reduceLT, Nat.reduceEqDiff, LT.lo, Leaf.lo]
    rw [badA_code]
    simp -implicitDefEqProofs only [evs, reduceIte, rdRes, rdTT, rdTy, rdLT, Res.un, TT.un, Ty.un, LT.un, Leaf.un, Leaf.plain, LT.plain, evh, List.replicate, splice, LT.pack, Leaf.pack, Nat.reduceAdd, Nat.reduceSub, Nat.reduceLeDiff, Nat.reduceLT, Nat.reduceEqDiff, LT.lo, Leaf.lo]
    cases hin : inA (a, v) with
    | false => simp -implicitDefEqProofs only [evs, reduceIte, rdRes, rdTT, rdTy, rdLT, Res.un, TT.un, Ty.un, LT.un, Leaf.un, Leaf.plain, LT.plain, evh, List.replicate, splice, LT.pack, Leaf.pack, Nat.reduceAdd, Nat.reduceSub, Nat.reduceLeDiff, Nat.reduceLT, Nat.reduceEqDiff, LT.lo, Leaf.lo, Bool.false_eq_true]
    | true =>
      have hi := inA_iff.1 hin
      simp only at hi
      have hd := dens_bound ht (show (0 : Int) ≤ 10000 by omega) (Int.le_refl _)
      have hm := mul_small (a := a) (d := dens xs 10000) (by omega) hd
      simp -implicitDefEqProofs only [evs, reduceIte, rdRes, rdTT, rdTy, rdLT, Res.un, TT.un, Ty.un, LT.un, Leaf.un, Leaf.plain, LT.plain, evh, List.replicate, splice, LT.pack, Leaf.pack, Nat.reduceAdd, Nat.reduceSub, Nat.reduceLeDiff, Nat.reduceLT, Nat.reduceEqDiff, LT.lo, Leaf.lo, reserve0]
      rw [alcof_ok hc (by omega) (by omega)]
      simp -implicitDefEqProofs only [evs, reduceIte, rdRes, rdTT, rdTy, rdLT, Res.un, TT.un, Ty.un, LT.un, Leaf.un, Leaf.plain, LT.plain, evh, List.replicate, splice, LT.pack, Leaf.pack, Nat.reduceAdd, Nat.reduceSub, Nat.reduceLeDiff, Nat.reduceLT, Nat.reduceEqDiff, LT.lo, Leaf.lo]
      rw [i64_in (v * 10000) (by omega), i64_in (a * dens xs 10000) (by omega)]
      by_cases hlt : v * 10000 < a * dens xs 10000
      · rw [decide_eq_true hlt, if_pos hlt]
        simp -implicitDefEqProofs only [evs, reduceIte, rdRes, rdTT, rdTy, rdLT, Res.un, TT.un, Ty.un, LT.un, Leaf.un, Leaf.plain, LT.plain, evh, List.replicate, splice, LT.pack, Leaf.pack, Nat.reduceAdd, Nat.reduceSub, Nat.reduceLeDiff, Nat.reduceLT, Nat.reduceEqDiff, LT.lo, Leaf.lo]
      · rw [decide_eq_false hlt, if_neg hlt]
        simp -implicitDefEqProofs only [evs, reduceIte, rdRes, rdTT, rdTy, rdLT, Res.un, TT.un, Ty.un, LT.un, Leaf.un, Leaf.plain, LT.plain, evh, List.replicate, splice, LT.pack, Leaf.pack, Nat.reduceAdd, Nat.reduceSub, Nat.reduceLeDiff, Nat.reduceLT, Nat.reduceEqDiff, LT.lo, Leaf.lo]
  · rw [decide_eq_false hc, if_neg hc]
    simp -implicitDefEqProofs only [evs, reduceIte, rdRes, rdTT, rdTy, rdLT, Res.un, TT.un, Ty.un, LT.un, Leaf.un, Leaf.plain, LT.plain, evh, List.replicate, splice, LT.pack, Leaf.pack, Nat.reduceAdd, Nat.reduceSub, Nat.reduceLeDiff, Nat.reduceLT, Nat.reduceEqDiff, LT.lo, Leaf.lo]
/-- Is a grade above a liquid's? -/
noncomputable def above (xs : List (Int × Int)) (x : Int × Int) (k : Nat) : Bool := decide (x.1 * dens xs k < x.2 * k)
theorem above_up {xs : List (Int × Int)} {x : Int × Int} (ht : Table2 xs) (hi : inA x = true) (j k : Nat) (hjk : j ≤ k) (hk : k < 10001) (h : above xs x j = true) : above xs x k = true := by
  have hi := inA_iff.1 hi
  have h := of_decide_eq_true h
  have hd := dens_down (s := j) (t := k) ht (by omega) (by omega) (by omega)
  have k1 : x.1 * dens xs k ≤ x.1 * dens xs j := Int.mul_le_mul_of_nonneg_left hd hi.1
  have k2 : x.2 * (j : Int) ≤ x.2 * (k : Int) := Int.mul_le_mul_of_nonneg_left (by omega) hi.2.2.1
  exact decide_eq_true (by omega)
abbrev sH (xs : List (Int × Int)) (x : Int × Int) : H := hL [.own [.slice (rowSV false j2 xs).a xs.length xs.length true] 1, c2 x]
theorem strength1_ok {xs : List (Int × Int)} {x : Int × Int} {k : Nat} (hc : (checkOf xs).2 = 0) (hi : inA x = true) (hk : k < 10001) : alcohol_Strength_1 (k : Int) (.hp 1 2 0) (.hp 0 1 0) (sH xs x) = some (above xs x k, sH xs x) := by
  have ht := check_table hc
  have r0 : rdT (.leaf .slice) (sH xs x) (.hp 0 1 0) = some (rowSV false j2 xs) := by
    unfold sH
    rw [rd_own (g := 1) (id := 0) rfl rfl]; rfl
  have e1 : [.own [.slice (rowSV false j2 xs).a xs.length xs.length true] 1, c2 x][1]? = some (c2 x) := rfl
  have r1 : rdT (.leaf (.int .i64)) (sH xs x) (.hp 1 2 0) = some x.1 ∧ rdT (.leaf (.int .i64)) (sH xs x) (.hp 1 2 1) = some x.2 := rd_c2 e1
  have hi := inA_iff.1 hi
  have hd := dens_bound (t := k) ht (by omega) (by omega)
  have hm := mul_small (a := x.1) (d := dens xs k) (by omega) hd
  have hv : 0 ≤ x.2 * (k : Int) ∧ x.2 * (k : Int) ≤ 128849018880000 * 10000 := ⟨Int.mul_nonneg (by omega) (by omega), Int.mul_le_mul (by omega) (by omega) (by omega) (by omega)⟩
  unfold alcohol_Strength_1
  simp -implicitDefEqProofs only [reserve0]
  rw [guardO_pos (p := V.nn _ = true) (by rfl)]
  show ((rdT (.leaf (.int .i64)) (sH xs x) (.hp 1 2 0)).bind _) = _
  rw [r1.1]
  simp -implicitDefEqProofs only [evs, reduceIte, rdRes, rdTT, rdTy, rdLT, Res.un, TT.un, Ty.un, LT.un, Leaf.un, Leaf.plain, LT.plain]
  rw [r0]
  simp -implicitDefEqProofs only [evs, reduceIte, rdRes, rdTT, rdTy, rdLT, Res.un, TT.un, Ty.un, LT.un, Leaf.un, Leaf.plain, LT.plain]
  rw [alcof_ok hc (by omega) (by omega)]
  simp -implicitDefEqProofs only [evs, reduceIte, rdRes, rdTT, rdTy, rdLT, Res.un, TT.un, Ty.un, LT.un, Leaf.un, Leaf.plain, LT.plain]
  rw [guardO_pos (p := V.nn _ = true) (by rfl)]
  show ((rdT (.leaf (.int .i64)) (sH xs x) (.hp 1 2 1)).bind _) = _
  rw [r1.2]
  simp -implicitDefEqProofs only [evs, reduceIte, rdRes, rdTT, rdTy, rdLT, Res.un, TT.un, Ty.un, LT.un, Leaf.un, Leaf.plain, LT.plain]
  rw [i64_in (x.1 * dens xs k) (by omega), i64_in (x.2 * (k : Int)) (by omega)]
  rfl
/-- A liquid's strength: one below the first grade above it. -/
theorem Strength_ok (xs : List (Int × Int)) (a v : Int) : ∃ r, alcohol_StrengthP xs (a, v) = some r ∧
    ((acheckOf xs (a, v) ≠ 0 ∧ r = (0, 1)) ∨ (acheckOf xs (a, v) = 0 ∧ a = 0 ∧ v = 0 ∧ r = (0, 0)) ∨
      (acheckOf xs (a, v) = 0 ∧ ¬(a = 0 ∧ v = 0) ∧ ∃ m : Nat, m ≤ 10001 ∧ r = ((m : Int) - 1, 0) ∧ (∀ q, q < m → above xs (a, v) q = false) ∧ ∀ q, m ≤ q → q < 10001 → above xs (a, v) q = true)) := by
  have r0 : rdT (.leaf .slice) (sH xs (a, v)) (.hp 0 1 0) = some (rowSV false j2 xs) := by
    unfold sH
    rw [rd_own (g := 1) (id := 0) rfl rfl]; rfl
  have e1 : [.own [.slice (rowSV false j2 xs).a xs.length xs.length true] 1, c2 (a, v)][1]? = some (c2 (a, v)) := rfl
  have s1 : rdT (.agg j2) (sH xs (a, v)) (.hp 1 2 0) = some (a, v) := rds_c2 e1
  unfold alcohol_StrengthP alcohol_Strength
  simp -implicitDefEqProofs only [evs, reduceIte, rdRes, rdTT, rdTy, rdLT, Res.un, TT.un, Ty.un, LT.un, Leaf.un, Leaf.plain, LT.plain, hL_empty, hL_new, hL_next, List.length_nil, List.length_cons, List.nil_append, List.cons_append, Nat.zero_add]
  simp only [sH, c2] at r0 s1
  rw [r0]
  simp -implicitDefEqProofs only [evs, reduceIte, rdRes, rdTT, rdTy, rdLT, Res.un, TT.un, Ty.un, LT.un, Leaf.un, Leaf.plain, LT.plain]
  rw [s1]
  simp -implicitDefEqProofs only [evs, reduceIte, rdRes, rdTT, rdTy, rdLT, Res.un, TT.un, Ty.un, LT.un, Leaf.un, Leaf.plain, LT.plain]
  rw [ACheck_ok]
  simp -implicitDefEqProofs only [evs, reduceIte, rdRes, rdTT, rdTy, rdLT, Res.un, TT.un, Ty.un, LT.un, Leaf.un, Leaf.plain, LT.plain]
  by_cases hc : acheckOf xs (a, v) = 0
  · rw [decide_eq_true hc]
    simp -implicitDefEqProofs only [evs, reduceIte, rdRes, rdTT, rdTy, rdLT, Res.un, TT.un, Ty.un, LT.un, Leaf.un, Leaf.plain, LT.plain]
    by_cases hz : a = 0 ∧ v = 0
    · rw [decide_eq_true hz.1, decide_eq_true hz.2]
      simp -implicitDefEqProofs only [evs, reduceIte, rdRes, rdTT, rdTy, rdLT, Res.un, TT.un, Ty.un, LT.un, Leaf.un, Leaf.plain, LT.plain]
      exact ⟨_, rfl, .inr (.inl ⟨hc, hz.1, hz.2, rfl⟩)⟩
    · have hfalse : (decide (a = 0) && decide (v = 0)) = false := by
        rw [← Bool.decide_and]
        exact decide_eq_false hz
      rw [hfalse]
      simp -implicitDefEqProofs only [evs, reduceIte, rdRes, rdTT, rdTy, rdLT, Res.un, TT.un, Ty.un, LT.un, Leaf.un, Leaf.plain, LT.plain]
      have hck : (checkOf xs).2 = 0 := by
        refine Classical.byContradiction fun h => ?_
        unfold acheckOf at hc
        rw [if_neg h] at hc
        simp at hc
      have hin : inA (a, v) = true := by
        unfold acheckOf at hc
        rw [if_pos hck] at hc
        cases h : inA (a, v) with
        | true => rfl
        | false => rw [h] at hc; simp at hc
      obtain ⟨m, q1, q2', q3, q4⟩ := Search_ok (T := alcohol_Strength.tb) (v := .func 43 [.hp 1 2 0, .hp 0 1 0]) (h := sH xs (a, v)) (n := 10001) (above xs (a, v)) (by omega) (fun j k hjk hk hj => above_up (check_table hck) hin j k hjk hk hj) (fun k hk R K => by
        show (alcohol_Strength_1 (k : Int) (.hp 1 2 0) (.hp 0 1 0) _).bind (fun p => K (.bool p.1) p.2) = _
        rw [strength1_ok hck hin hk]
        rfl)
      have hn : ((10001 : Nat) : Int) = 10001 := rfl
      simp only [sH, c2, hn] at q1
      rw [q1]
      simp -implicitDefEqProofs only [evs, reduceIte, rdRes, rdTT, rdTy, rdLT, Res.un, TT.un, Ty.un, LT.un, Leaf.un, Leaf.plain, LT.plain]
      rw [i64_in _ (by omega)]
      exact ⟨_, rfl, .inr (.inr ⟨hc, hz, m, q2', rfl, q3, q4⟩)⟩
  · rw [decide_eq_false hc]
    simp -implicitDefEqProofs only [evs, reduceIte, rdRes, rdTT, rdTy, rdLT, Res.un, TT.un, Ty.un, LT.un, Leaf.un, Leaf.plain, LT.plain]
    exact ⟨_, rfl, .inl ⟨hc, rfl⟩⟩
end Go.Proofs.Ytaepkinihaipkaa
/- What alcohol.Volume and mix.mixture compute. Conditions: those of each law. -/
namespace Go.Proofs.Ytaepkinihaipkaa
open Go Go.Proofs.Ytaepkinihaipkaa.Ev
set_option linter.unusedVariables false
set_option linter.unusedSimpArgs false
set_option maxRecDepth 100000
set_option maxHeartbeats 4000000
theorem acheck_zero {xs : List (Int × Int)} {x : Int × Int} (h : acheckOf xs x = 0) : (checkOf xs).2 = 0 ∧ inA x = true ∧ x.1 * dens xs 10000 ≤ x.2 * 10000 := by
  unfold acheckOf at h
  by_cases h1 : (checkOf xs).2 = 0
  · rw [if_pos h1] at h
    by_cases h2 : inA x = true
    · rw [if_pos h2] at h
      by_cases h3 : x.2 * 10000 < x.1 * dens xs 10000
      · rw [if_pos h3] at h; simp at h
      · exact ⟨h1, h2, by omega⟩
    · rw [if_neg h2] at h; simp at h
  · rw [if_neg h1] at h; simp at h
noncomputable def strengthOf (xs : List (Int × Int)) (x : Int × Int) : Int × Int := (alcohol_StrengthP xs x).getD (0, 1)
/-- A strength, and what is known of it. -/
theorem strengthOf_ok (xs : List (Int × Int)) (x : Int × Int) : alcohol_StrengthP xs x = some (strengthOf xs x) ∧
    ((acheckOf xs x ≠ 0 ∧ strengthOf xs x = (0, 1)) ∨ (acheckOf xs x = 0 ∧ (strengthOf xs x).2 = 0 ∧ 0 ≤ (strengthOf xs x).1 ∧ (strengthOf xs x).1 ≤ 10000)) := by
  obtain ⟨a, v⟩ := x
  obtain ⟨r, er, hcase⟩ := Strength_ok xs a v
  have hs : strengthOf xs (a, v) = r := by unfold strengthOf; rw [er]; rfl
  rw [hs]
  refine ⟨er, ?_⟩
  rcases hcase with ⟨h1, rfl⟩ | ⟨h1, _, _, rfl⟩ | ⟨h1, hn, m, m1, rfl, m3, m4⟩
  · exact .inl ⟨h1, rfl⟩
  · exact .inr ⟨h1, rfl, by simp, by simp⟩
  · obtain ⟨ck, hin, hmax⟩ := acheck_zero h1
    have ht := check_table ck
    have hin' := inA_iff.1 hin
    have hm0 : 0 < m := by
      rcases Nat.eq_zero_or_pos m with h | h
      · have h0 := of_decide_eq_true (m4 0 (by omega) (by omega))
        simp only [Int.natCast_zero, Int.mul_zero] at h0
        have hd := dens_bound (t := 0) ht (by omega) (by omega)
        have := Int.mul_nonneg (show 0 ≤ (a, v).1 from hin'.1) (show 0 ≤ dens xs 0 by omega)
        simp only at this
        omega
      · exact h
    exact .inr ⟨h1, rfl, by simp only; omega, by simp only; omega⟩
noncomputable def volOf (xs : List (Int × Int)) (x : Int × Int) : Int × Int := if (strengthOf xs x).2 = 0 then (x.2 / dens xs (strengthOf xs x).1, 0) else (0, (strengthOf xs x).2)
theorem Volume_ok (xs : List (Int × Int)) (a v : Int) : alcohol_VolumeP xs (a, v) = some (volOf xs (a, v)) := by
  obtain ⟨hs, hcase⟩ := strengthOf_ok xs (a, v)
  unfold alcohol_VolumeP alcohol_Volume volOf
  simp -implicitDefEqProofs only [evs, reduceIte, rdRes, rdTT, rdTy, rdLT, Res.un, TT.un, Ty.un, LT.un, Leaf.un, Leaf.plain, LT.plain, evh, List.replicate, splice, LT.pack, Leaf.pack, Nat.reduceAdd, Nat.reduceSub, Nat.reduceLeDiff, Nat.reduceLT, Nat.reduceEqDiff, LT.lo, Leaf.lo, hs]
  by_cases h : (strengthOf xs (a, v)).2 = 0
  · rw [decide_eq_true h, if_pos h]
    rcases hcase with ⟨_, h2⟩ | ⟨h1, _, h3, h4⟩
    · rw [h2] at h; simp at h
    · obtain ⟨ck, hin, hmax⟩ := acheck_zero h1
      have ht := check_table ck
      have hd := dens_bound ht h3 h4
      have hin' := inA_iff.1 hin
      simp only at hin'
      simp -implicitDefEqProofs only [evs, reduceIte, rdRes, rdTT, rdTy, rdLT, Res.un, TT.un, Ty.un, LT.un, Leaf.un, Leaf.plain, LT.plain, evh, List.replicate, splice, LT.pack, Leaf.pack, Nat.reduceAdd, Nat.reduceSub, Nat.reduceLeDiff, Nat.reduceLT, Nat.reduceEqDiff, LT.lo, Leaf.lo, reserve0]
      rw [alcof_ok ck h3 h4]
      simp -implicitDefEqProofs only [evs, reduceIte, rdRes, rdTT, rdTy, rdLT, Res.un, TT.un, Ty.un, LT.un, Leaf.un, Leaf.plain, LT.plain, evh, List.replicate, splice, LT.pack, Leaf.pack, Nat.reduceAdd, Nat.reduceSub, Nat.reduceLeDiff, Nat.reduceLT, Nat.reduceEqDiff, LT.lo, Leaf.lo]
      have k1 : 0 ≤ v / dens xs (strengthOf xs (a, v)).1 := Int.ediv_nonneg hin'.2.2.1 (by omega)
      have k2 : v / dens xs (strengthOf xs (a, v)).1 ≤ v := Int.ediv_le_self _ hin'.2.2.1
      rw [guardO_pos (by omega), Int.tdiv_eq_ediv_of_nonneg hin'.2.2.1, i64_in _ (by omega)]
      simp -implicitDefEqProofs only [evs, reduceIte, rdRes, rdTT, rdTy, rdLT, Res.un, TT.un, Ty.un, LT.un, Leaf.un, Leaf.plain, LT.plain, evh, List.replicate, splice, LT.pack, Leaf.pack, Nat.reduceAdd, Nat.reduceSub, Nat.reduceLeDiff, Nat.reduceLT, Nat.reduceEqDiff, LT.lo, Leaf.lo]
  · rw [decide_eq_false h, if_neg h]
    simp -implicitDefEqProofs only [evs, reduceIte, rdRes, rdTT, rdTy, rdLT, Res.un, TT.un, Ty.un, LT.un, Leaf.un, Leaf.plain, LT.plain, evh, List.replicate, splice, LT.pack, Leaf.pack, Nat.reduceAdd, Nat.reduceSub, Nat.reduceLeDiff, Nat.reduceLT, Nat.reduceEqDiff, LT.lo, Leaf.lo]
noncomputable def mixtureOf (xs ls : List (Int × Int)) : (Int × Int) × Int :=
  if 8 < ls.length then ((0, 0), 8) else if (checkOf xs).2 = 0 then (if ls.any (fun x => !decide (acheckOf xs x = 0)) = true then ((0, 0), 1) else sumOf ls) else ((0, 0), 1)
theorem mixture1_ok {xs : List (Int × Int)} {sl : List Slot} {x : Int × Int} : mix_mixture_1 x (.hp 0 1 0) (hL (.own [.slice (rowSV false j2 xs).a xs.length xs.length true] 1 :: sl)) = some (!decide (acheckOf xs x = 0), hL (.own [.slice (rowSV false j2 xs).a xs.length xs.length true] 1 :: (sl ++ [c2 x]))) := by
  have r0 : rdT (.leaf .slice) (hL (.own [.slice (rowSV false j2 xs).a xs.length xs.length true] 1 :: (sl ++ [c2 x]))) (.hp 0 1 0) = some (rowSV false j2 xs) := by
    rw [rd_own (g := 1) (id := 0) rfl rfl]; rfl
  have e1 : (.own [.slice (rowSV false j2 xs).a xs.length xs.length true] 1 :: (sl ++ [c2 x]))[sl.length + 1]? = some (c2 x) := by simp
  have r1 := rds_c2 e1
  obtain ⟨a, v⟩ := x
  unfold mix_mixture_1
  simp -implicitDefEqProofs only [hL_new, hL_next, List.length_cons, List.cons_append]
  simp only [c2] at r0 r1
  rw [r0]
  simp -implicitDefEqProofs only [evs, reduceIte, rdRes, rdTT, rdTy, rdLT, Res.un, TT.un, Ty.un, LT.un, Leaf.un, Leaf.plain, LT.plain]
  rw [r1]
  simp -implicitDefEqProofs only [evs, reduceIte, rdRes, rdTT, rdTy, rdLT, Res.un, TT.un, Ty.un, LT.un, Leaf.un, Leaf.plain, LT.plain]
  rw [ACheck_ok]
  simp -implicitDefEqProofs only [evs, reduceIte, rdRes, rdTT, rdTy, rdLT, Res.un, TT.un, Ty.un, LT.un, Leaf.un, Leaf.plain, LT.plain]
end Go.Proofs.Ytaepkinihaipkaa
/- What mix.mixture computes. Conditions: those of each law. -/
namespace Go.Proofs.Ytaepkinihaipkaa
open Go Go.Proofs.Ytaepkinihaipkaa.Ev
set_option linter.unusedVariables false
set_option linter.unusedSimpArgs false
set_option maxRecDepth 100000
set_option maxHeartbeats 4000000
theorem IndexFunc_grow {T : Table} {v : V} {B : List Slot} {xs : List (Int × Int)} {f : Bool} (p : Int × Int → Bool) (hn : xs.length < 2 ^ 63)
    (hc : ∀ x ∈ xs, ∀ (J : List Slot) {R : Type} (k : V → H → Option R), callV T.dy v [.agg [.int .i64 x.1, .int .i64 x.2]] (hL (B ++ J)) k = k (.bool (p x)) (hL (B ++ (J ++ [c2 x])))) :
    ∃ J, slices_IndexFunc_api_Liquid_api_Liquid T (rowSV f [.int .i64, .int .i64] xs) v (hL B) = some (idxOf p xs, hL (B ++ J)) := by
  have hstep : ∀ (i : Nat) (x : Int × Int), xs[i]? = some x → slices_IndexFunc_api_Liquid_api_Liquid.loop1 T (rowSV f j2 xs) v ((i : Int), hL (B ++ (xs.take i).map c2)) = some (bif p x then .done (.ret (i : Int), hL (B ++ (xs.take (i + 1)).map c2)) else .more (((i + 1 : Nat) : Int), hL (B ++ (xs.take (i + 1)).map c2))) := fun i x hx => by
    obtain ⟨hlt, hx'⟩ := List.getElem?_eq_some_iff.1 hx
    have ht : (xs.take (i + 1)).map c2 = (xs.take i).map c2 ++ [c2 x] := by
      rw [← List.take_append_getElem hlt, List.map_append, hx']
      rfl
    unfold slices_IndexFunc_api_Liquid_api_Liquid.loop1
    simp -implicitDefEqProofs only [rowSV_len, Int.toNat_natCast]
    rw [decide_eq_true (by omega), cond_true, guardO_pos (by omega), rds_rowF (ls := j2) (w := 2) rfl (by omega) rfl, hx]
    simp -implicitDefEqProofs only [Option.bind_some]
    rw [hc x (by rw [← hx']; exact List.getElem_mem hlt), ← ht]
    simp -implicitDefEqProofs only [Res.pack, Ty.pack, Leaf.pack, Option.bind_some]
    rw [i64_succ (by omega)]
    cases p x <;> rfl
  unfold slices_IndexFunc_api_Liquid_api_Liquid idxOf
  cases hf : xs.findIdx? p with
  | some m =>
    obtain ⟨hm, hbad, hgood⟩ := List.findIdx?_eq_some_iff_getElem.1 hf
    have := iter_run (f := slices_IndexFunc_api_Liquid_api_Liquid.loop1 T (rowSV f j2 xs) v) (x := (.ret (m : Int), hL (B ++ (xs.take (m + 1)).map c2))) (fun i => ((i : Int), hL (B ++ (xs.take i).map c2))) m FUEL (fun i hi => by
      rw [hstep i _ (List.getElem?_eq_getElem (by omega))]
      have := hgood i hi
      cases hpi : p xs[i] with
      | true => exact absurd hpi this
      | false => rfl) (by
      rw [hstep m _ (List.getElem?_eq_getElem hm), hbad]
      rfl) (fuel_gt (by omega))
    have hz : (((0 : Nat) : Int)) = 0 := rfl
    simp only [hz, List.take_zero, List.map_nil, List.append_nil] at this
    rw [this]
    exact ⟨_, rfl⟩
  | none =>
    have hno := List.findIdx?_eq_none_iff.1 hf
    have := iter_run (f := slices_IndexFunc_api_Liquid_api_Liquid.loop1 T (rowSV f j2 xs) v) (x := (.ex0 (), hL (B ++ xs.map c2))) (fun i => ((i : Int), hL (B ++ (xs.take i).map c2))) xs.length FUEL (fun i hi => by
      rw [hstep i _ (List.getElem?_eq_getElem hi), hno _ (List.getElem_mem hi)]
      rfl) (by
      unfold slices_IndexFunc_api_Liquid_api_Liquid.loop1
      simp -implicitDefEqProofs only [rowSV_len]
      rw [decide_eq_false (by omega), cond_false, List.take_length]) (fuel_gt (by omega))
    have hz : (((0 : Nat) : Int)) = 0 := rfl
    simp only [hz, List.take_zero, List.map_nil, List.append_nil] at this
    rw [this]
    exact ⟨_, rfl⟩
theorem ContainsFunc_grow {T : Table} {v : V} {B : List Slot} {xs : List (Int × Int)} {f : Bool} (p : Int × Int → Bool) (hn : xs.length < 2 ^ 63)
    (hc : ∀ x ∈ xs, ∀ (J : List Slot) {R : Type} (k : V → H → Option R), callV T.dy v [.agg [.int .i64 x.1, .int .i64 x.2]] (hL (B ++ J)) k = k (.bool (p x)) (hL (B ++ (J ++ [c2 x])))) :
    ∃ J, slices_ContainsFunc_api_Liquid_api_Liquid T (rowSV f [.int .i64, .int .i64] xs) v (hL B) = some (xs.any p, hL (B ++ J)) := by
  obtain ⟨J, h⟩ := IndexFunc_grow (T := slices_ContainsFunc_api_Liquid_api_Liquid.tb T) (f := f) p hn hc
  refine ⟨J, ?_⟩
  unfold slices_ContainsFunc_api_Liquid_api_Liquid
  rw [h]
  simp only [Option.bind_some, idxOf_nonneg]
theorem mixture_ok (xs ls : List (Int × Int)) (hl : ls.length < 2 ^ 63) : mix_mixtureP xs ls = some (mixtureOf xs ls) := by
  unfold mix_mixtureP mix_mixture mixtureOf
  simp -implicitDefEqProofs only [evs, reduceIte, rdRes, rdTT, rdTy, rdLT, Res.un, TT.un, Ty.un, LT.un, Leaf.un, Leaf.plain, LT.plain, hL_empty, hL_new, hL_next, List.length_nil, List.length_cons, List.nil_append, List.cons_append, Nat.zero_add]
  have hB : ∀ (J : List Slot), (([.own [.slice (rowSV false j2 xs).a xs.length xs.length true] 1, c2 (0, 0)] : List Slot) ++ J)[1]? = some (c2 (0, 0)) := fun J => rfl
  have r0 : rdT (.leaf .slice) (hL [.own [.slice (rowSV false j2 xs).a xs.length xs.length true] 1, c2 (0, 0)]) (.hp 0 1 0) = some (rowSV false j2 xs) := by
    rw [rd_own (g := 1) (id := 0) rfl rfl]; rfl
  have w0 := wrs_c2 (y := (0, 0)) (hB [])
  have s0 := rds_c2 (hB [])
  simp only [c2, List.append_nil, List.set_cons_succ, List.set_cons_zero] at r0 w0 s0
  rw [r0]
  simp -implicitDefEqProofs only [evs, reduceIte, rdRes, rdTT, rdTy, rdLT, Res.un, TT.un, Ty.un, LT.un, Leaf.un, Leaf.plain, LT.plain, DCheck_ok]
  by_cases h8 : 8 < ls.length
  · rw [if_pos h8, decide_eq_true (show (8 : Int) < (ls.length : Int) by omega)]
    simp -implicitDefEqProofs only [evs, reduceIte, rdRes, rdTT, rdTy, rdLT, Res.un, TT.un, Ty.un, LT.un, Leaf.un, Leaf.plain, LT.plain]
    rw [w0]
    simp -implicitDefEqProofs only [evs, reduceIte, rdRes, rdTT, rdTy, rdLT, Res.un, TT.un, Ty.un, LT.un, Leaf.un, Leaf.plain, LT.plain]
    rw [s0]
    simp -implicitDefEqProofs only [evs, reduceIte, rdRes, rdTT, rdTy, rdLT, Res.un, TT.un, Ty.un, LT.un, Leaf.un, Leaf.plain, LT.plain]
  · rw [if_neg h8, decide_eq_false (show ¬ (8 : Int) < (ls.length : Int) by omega)]
    simp -implicitDefEqProofs only [evs, reduceIte, rdRes, rdTT, rdTy, rdLT, Res.un, TT.un, Ty.un, LT.un, Leaf.un, Leaf.plain, LT.plain]
    by_cases hck : (checkOf xs).2 = 0
    · rw [decide_eq_true hck, if_pos hck]
      simp -implicitDefEqProofs only [evs, reduceIte, rdRes, rdTT, rdTy, rdLT, Res.un, TT.un, Ty.un, LT.un, Leaf.un, Leaf.plain, LT.plain]
      obtain ⟨J, hJ⟩ := ContainsFunc_grow (T := mix_mixture.tb) (v := .func 57 [.hp 0 1 0]) (B := [.own [.slice (rowSV false j2 xs).a xs.length xs.length true] 1, c2 (0, 0)]) (xs := ls) (f := false) (fun x => !decide (acheckOf xs x = 0)) hl (fun x hx J R k => by
        show (mix_mixture_1 x (.hp 0 1 0) _).bind (fun p => k (.bool p.1) p.2) = _
        have := mixture1_ok (xs := xs) (sl := c2 (0, 0) :: J) (x := x)
        simp only [List.cons_append, List.nil_append] at this ⊢
        rw [this]
        rfl)
      simp only [c2] at hJ
      rw [hJ]
      simp -implicitDefEqProofs only [evs, reduceIte, rdRes, rdTT, rdTy, rdLT, Res.un, TT.un, Ty.un, LT.un, Leaf.un, Leaf.plain, LT.plain]
      have w1 := fun y => wrs_c2 (y := y) (hB J)
      have s1 : ∀ y, rdT (.agg j2) (hL (([.own [.slice (rowSV false j2 xs).a xs.length xs.length true] 1, c2 (0, 0)] ++ J).set 1 (c2 y))) (.hp 1 2 0) = some y := fun y => rds_c2 rfl
      cases hany : ls.any (fun x => !decide (acheckOf xs x = 0)) with
      | true =>
        have w2 := w1 (0, 0)
        have s2 := s1 (0, 0)
        simp only [c2] at w2 s2
        simp -implicitDefEqProofs only [evs, reduceIte, rdRes, rdTT, rdTy, rdLT, Res.un, TT.un, Ty.un, LT.un, Leaf.un, Leaf.plain, LT.plain]
        rw [w2]
        simp -implicitDefEqProofs only [evs, reduceIte, rdRes, rdTT, rdTy, rdLT, Res.un, TT.un, Ty.un, LT.un, Leaf.un, Leaf.plain, LT.plain]
        rw [s2]
        simp -implicitDefEqProofs only [evs, reduceIte, rdRes, rdTT, rdTy, rdLT, Res.un, TT.un, Ty.un, LT.un, Leaf.un, Leaf.plain, LT.plain]
      | false =>
        simp -implicitDefEqProofs only [evs, reduceIte, rdRes, rdTT, rdTy, rdLT, Res.un, TT.un, Ty.un, LT.un, Leaf.un, Leaf.plain, LT.plain, Bool.false_eq_true]
        rw [Sum_ok ls hl]
        generalize sumOf ls = s
        obtain ⟨⟨a, b⟩, e⟩ := s
        have w2 := w1 (a, b)
        have s2 := s1 (a, b)
        simp only [c2] at w2 s2
        simp -implicitDefEqProofs only [evs, reduceIte, rdRes, rdTT, rdTy, rdLT, Res.un, TT.un, Ty.un, LT.un, Leaf.un, Leaf.plain, LT.plain]
        rw [w2]
        simp -implicitDefEqProofs only [evs, reduceIte, rdRes, rdTT, rdTy, rdLT, Res.un, TT.un, Ty.un, LT.un, Leaf.un, Leaf.plain, LT.plain]
        rw [s2]
        simp -implicitDefEqProofs only [evs, reduceIte, rdRes, rdTT, rdTy, rdLT, Res.un, TT.un, Ty.un, LT.un, Leaf.un, Leaf.plain, LT.plain]
    · rw [decide_eq_false hck, if_neg hck]
      simp -implicitDefEqProofs only [evs, reduceIte, rdRes, rdTT, rdTy, rdLT, Res.un, TT.un, Ty.un, LT.un, Leaf.un, Leaf.plain, LT.plain]
      rw [w0]
      simp -implicitDefEqProofs only [evs, reduceIte, rdRes, rdTT, rdTy, rdLT, Res.un, TT.un, Ty.un, LT.un, Leaf.un, Leaf.plain, LT.plain]
      rw [s0]
      simp -implicitDefEqProofs only [evs, reduceIte, rdRes, rdTT, rdTy, rdLT, Res.un, TT.un, Ty.un, LT.un, Leaf.un, Leaf.plain, LT.plain]
end Go.Proofs.Ytaepkinihaipkaa
/- What mix.Between computes. Conditions: those of each law. -/
namespace Go.Proofs.Ytaepkinihaipkaa
open Go Go.Proofs.Ytaepkinihaipkaa.Ev
set_option linter.unusedVariables false
set_option linter.unusedSimpArgs false
set_option maxRecDepth 100000
set_option maxHeartbeats 4000000
/-- The band of strengths, one liquid more. -/
noncomputable def bandStep (xs : List (Int × Int)) (b x : Int × Int) : Int × Int := if x.2 = 0 then b else (min b.1 (strengthOf xs x).1, max b.2 (strengthOf xs x).1)
noncomputable def bandOf (xs : List (Int × Int)) (ls : List (Int × Int)) : Int × Int := ls.foldl (bandStep xs) (10000, 0)
theorem band_take {xs ls : List (Int × Int)} {i : Nat} {x : Int × Int} (h : ls[i]? = some x) : bandOf xs (ls.take (i + 1)) = bandStep xs (bandOf xs (ls.take i)) x := by
  obtain ⟨hi, rfl⟩ := List.getElem?_eq_some_iff.1 h
  unfold bandOf
  rw [← List.take_append_getElem hi, List.foldl_append]
  rfl
noncomputable def slotsB (xs ls : List (Int × Int)) (s : Int × Int) (i : Nat) : List Slot := c2 (0, 0) :: c2 s :: c2 (bandOf xs (ls.take i)) :: (ls.take i).map c2
theorem slotsB_succ {xs ls : List (Int × Int)} {s : Int × Int} {i : Nat} {x : Int × Int} (h : ls[i]? = some x) : (slotsB xs ls s i ++ [c2 x]).set 2 (c2 (bandStep xs (bandOf xs (ls.take i)) x)) = slotsB xs ls s (i + 1) := by
  unfold slotsB
  rw [band_take h]
  obtain ⟨hi, rfl⟩ := List.getElem?_eq_some_iff.1 h
  rw [← List.take_append_getElem hi, List.map_append]
  rfl
theorem between_loop {xs ls : List (Int × Int)} {s : Int × Int} {f g : Bool} {hh : H} (h2 : hh.next = 2) (hl : ls.length ≤ 8) :
    iter FUEL (mix_Between.loop1 (rowSV f j2 xs) (rowSV g j2 ls) hh) (0, hL [c2 (0, 0), c2 s, c2 (10000, 0)]) = some (.ex0 (), hL (slotsB xs ls s ls.length)) := by
  refine (iter_from (f := mix_Between.loop1 (rowSV f j2 xs) (rowSV g j2 ls) hh) (fun i => ((i : Int), hL (slotsB xs ls s i))) rfl ls.length FUEL (fun i hi => ?_) ?_ (fuel_gt (by omega)))
  · have hget := List.getElem?_eq_getElem hi
    generalize hxi : ls[i] = x at *
    have hrow : (slotsB xs ls s i ++ [c2 x])[(slotsB xs ls s i).length]? = some (c2 x) := by simp
    have hband : (slotsB xs ls s i ++ [c2 x])[2]? = some (c2 (bandOf xs (ls.take i))) := rfl
    have r1 := rd_c2 hrow
    have r2 := rds_c2 hrow
    have t1 := rd_c2 hband
    have nw := new_c2 (sl := slotsB xs ls s i) (x := x)
    have hsucc := slotsB_succ (xs := xs) (s := s) hget
    have hg1 : 0 ≤ (i : Int) ∧ (i : Int) < (ls.length : Int) := by omega
    unfold mix_Between.loop1
    simp -implicitDefEqProofs only [Int.toNat_natCast, rowSV_len, guardO_pos hg1, h2]
    rw [decide_eq_true hg1.2, cond_true, rds_rowF (ls := j2) (w := 2) rfl (by omega) rfl, hget]
    simp -implicitDefEqProofs only [Option.bind_some, hL_new, hL_next]
    rw [nw]
    simp -implicitDefEqProofs only [Option.bind_some, r1.1, r1.2]
    by_cases hz : x.2 = 0
    · rw [decide_eq_true hz]
      simp -implicitDefEqProofs only [evs, reduceIte, rdRes, rdTT, rdTy, rdLT, Res.un, TT.un, Ty.un, LT.un, Leaf.un, Leaf.plain, LT.plain]
      have hsame : (slotsB xs ls s i ++ [c2 x]).set 2 (c2 (bandStep xs (bandOf xs (ls.take i)) x)) = slotsB xs ls s i ++ [c2 x] := by
        unfold bandStep
        rw [if_pos hz]
        rfl
      rw [hsame] at hsucc
      rw [i64_succ (by omega), hsucc]
    · rw [decide_eq_false hz]
      simp -implicitDefEqProofs only [evs, reduceIte, rdRes, rdTT, rdTy, rdLT, Res.un, TT.un, Ty.un, LT.un, Leaf.un, Leaf.plain, LT.plain]
      rw [r2]
      simp -implicitDefEqProofs only [evs, reduceIte, rdRes, rdTT, rdTy, rdLT, Res.un, TT.un, Ty.un, LT.un, Leaf.un, Leaf.plain, LT.plain]
      rw [(strengthOf_ok xs x).1]
      simp -implicitDefEqProofs only [evs, reduceIte, rdRes, rdTT, rdTy, rdLT, Res.un, TT.un, Ty.un, LT.un, Leaf.un, Leaf.plain, LT.plain]
      rw [t1.1]
      simp -implicitDefEqProofs only [evs, reduceIte, rdRes, rdTT, rdTy, rdLT, Res.un, TT.un, Ty.un, LT.un, Leaf.un, Leaf.plain, LT.plain]
      rw [t1.2]
      simp -implicitDefEqProofs only [evs, reduceIte, rdRes, rdTT, rdTy, rdLT, Res.un, TT.un, Ty.un, LT.un, Leaf.un, Leaf.plain, LT.plain]
      have w1 := wr0_c2 (y := minI (strengthOf xs x).1 (bandOf xs (ls.take i)).1) hband
      have hb2 : ((slotsB xs ls s i ++ [c2 x]).set 2 (c2 (minI (strengthOf xs x).1 (bandOf xs (ls.take i)).1, (bandOf xs (ls.take i)).2)))[2]? = some (c2 (minI (strengthOf xs x).1 (bandOf xs (ls.take i)).1, (bandOf xs (ls.take i)).2)) := rfl
      have w2 := wr1_c2 (y := maxI (strengthOf xs x).1 (bandOf xs (ls.take i)).2) hb2
      rw [List.set_set] at w2
      have hstep : bandStep xs (bandOf xs (ls.take i)) x = (minI (strengthOf xs x).1 (bandOf xs (ls.take i)).1, maxI (strengthOf xs x).1 (bandOf xs (ls.take i)).2) := by
        unfold bandStep
        rw [if_neg hz, minI_eq, maxI_eq]
      rw [← hstep, hsucc] at w2
      rw [w1]
      simp -implicitDefEqProofs only [evs, reduceIte, rdRes, rdTT, rdTy, rdLT, Res.un, TT.un, Ty.un, LT.un, Leaf.un, Leaf.plain, LT.plain]
      rw [w2]
      simp -implicitDefEqProofs only [evs, reduceIte, rdRes, rdTT, rdTy, rdLT, Res.un, TT.un, Ty.un, LT.un, Leaf.un, Leaf.plain, LT.plain]
      rw [i64_succ (by omega)]
  · unfold mix_Between.loop1
    simp -implicitDefEqProofs only [rowSV_len]
    rw [decide_eq_false (by omega), cond_false]
noncomputable def betweenOf (xs ls : List (Int × Int)) : (Int × Int) × Int × Int :=
  if (mixtureOf xs ls).2 = 0 then (if (mixtureOf xs ls).1.2 = 0 then ((0, 0), 0, 9) else (bandOf xs ls, (strengthOf xs (mixtureOf xs ls).1).1, 0)) else ((0, 0), 0, (mixtureOf xs ls).2)
theorem mixture_short {xs ls : List (Int × Int)} (h : (mixtureOf xs ls).2 = 0) : ls.length ≤ 8 := by
  unfold mixtureOf at h
  by_cases h8 : 8 < ls.length
  · rw [if_pos h8] at h; simp at h
  · omega
theorem Between_ok (xs ls : List (Int × Int)) (hl : ls.length < 2 ^ 63) : mix_BetweenP xs ls = some (betweenOf xs ls) := by
  unfold mix_BetweenP mix_Between betweenOf
  simp -implicitDefEqProofs only [evs, reduceIte, rdRes, rdTT, rdTy, rdLT, Res.un, TT.un, Ty.un, LT.un, Leaf.un, Leaf.plain, LT.plain, hL_empty, hL_new, hL_next, List.length_nil, List.length_cons, List.nil_append, List.cons_append, Nat.zero_add]
  rw [mixture_ok xs ls hl]
  have hshort := mixture_short (xs := xs) (ls := ls)
  generalize mixtureOf xs ls = m at *
  obtain ⟨⟨s1, s2⟩, e⟩ := m
  simp only at hshort
  have nw := new_c2 (sl := [c2 (0, 0)]) (x := (s1, s2))
  simp only [c2, List.cons_append, List.nil_append, List.length_cons, List.length_nil, Nat.zero_add] at nw
  simp -implicitDefEqProofs only [evs, reduceIte, rdRes, rdTT, rdTy, rdLT, Res.un, TT.un, Ty.un, LT.un, Leaf.un, Leaf.plain, LT.plain, hL_new, hL_next, List.length_cons, List.length_nil, Nat.zero_add, List.cons_append, List.nil_append]
  rw [nw]
  have e0 : [c2 (0, 0), c2 (s1, s2)][0]? = some (c2 (0, 0)) := rfl
  have e1 : [c2 (0, 0), c2 (s1, s2)][1]? = some (c2 (s1, s2)) := rfl
  have w0 := wrs_c2 (y := (0, 0)) e0
  have r0 := rds_c2 e0
  have q1 := rd_c2 e1
  simp only [c2, List.set_cons_zero] at w0 r0 q1
  simp -implicitDefEqProofs only [evs, reduceIte, rdRes, rdTT, rdTy, rdLT, Res.un, TT.un, Ty.un, LT.un, Leaf.un, Leaf.plain, LT.plain]
  by_cases he : e = 0
  · rw [decide_eq_true he, if_pos he]
    simp -implicitDefEqProofs only [evs, reduceIte, rdRes, rdTT, rdTy, rdLT, Res.un, TT.un, Ty.un, LT.un, Leaf.un, Leaf.plain, LT.plain]
    rw [q1.2]
    simp -implicitDefEqProofs only [evs, reduceIte, rdRes, rdTT, rdTy, rdLT, Res.un, TT.un, Ty.un, LT.un, Leaf.un, Leaf.plain, LT.plain]
    by_cases hz : s2 = 0
    · rw [decide_eq_true hz, if_pos hz]
      simp -implicitDefEqProofs only [evs, reduceIte, rdRes, rdTT, rdTy, rdLT, Res.un, TT.un, Ty.un, LT.un, Leaf.un, Leaf.plain, LT.plain]
      rw [w0]
      simp -implicitDefEqProofs only [evs, reduceIte, rdRes, rdTT, rdTy, rdLT, Res.un, TT.un, Ty.un, LT.un, Leaf.un, Leaf.plain, LT.plain]
      rw [r0]
      simp -implicitDefEqProofs only [evs, reduceIte, rdRes, rdTT, rdTy, rdLT, Res.un, TT.un, Ty.un, LT.un, Leaf.un, Leaf.plain, LT.plain]
    · rw [decide_eq_false hz, if_neg hz]
      simp -implicitDefEqProofs only [evs, reduceIte, rdRes, rdTT, rdTy, rdLT, Res.un, TT.un, Ty.un, LT.un, Leaf.un, Leaf.plain, LT.plain, hL_new, hL_next, List.length_cons, List.length_nil, Nat.zero_add, List.cons_append, List.nil_append]
      have nw2 := new_c2 (sl := [c2 (0, 0), c2 (s1, s2)]) (x := (10000, 0))
      simp only [c2, List.cons_append, List.nil_append, List.length_cons, List.length_nil, Nat.zero_add] at nw2
      rw [nw2]
      simp -implicitDefEqProofs only [evs, reduceIte, rdRes, rdTT, rdTy, rdLT, Res.un, TT.un, Ty.un, LT.un, Leaf.un, Leaf.plain, LT.plain]
      have hloop := between_loop (xs := xs) (ls := ls) (s := (s1, s2)) (f := false) (g := false) (hh := hL [c2 (0, 0), c2 (s1, s2)]) rfl (hshort he)
      simp only [c2] at hloop
      rw [hloop]
      simp -implicitDefEqProofs only [evs, reduceIte, rdRes, rdTT, rdTy, rdLT, Res.un, TT.un, Ty.un, LT.un, Leaf.un, Leaf.plain, LT.plain]
      have f0 : (slotsB xs ls (s1, s2) ls.length)[0]? = some (c2 (0, 0)) := rfl
      have f1 : (slotsB xs ls (s1, s2) ls.length)[1]? = some (c2 (s1, s2)) := rfl
      have f2 : (slotsB xs ls (s1, s2) ls.length)[2]? = some (c2 (bandOf xs ls)) := by rw [slotsB, List.take_length]; rfl
      have w3 := wrs_c2 (y := bandOf xs ls) f0
      have r3 : rdT (.agg j2) (hL ((slotsB xs ls (s1, s2) ls.length).set 0 (c2 (bandOf xs ls)))) (.hp 0 2 0) = some (bandOf xs ls) := rds_c2 rfl
      rw [rds_c2 f1]
      simp -implicitDefEqProofs only [evs, reduceIte, rdRes, rdTT, rdTy, rdLT, Res.un, TT.un, Ty.un, LT.un, Leaf.un, Leaf.plain, LT.plain]
      rw [(strengthOf_ok xs (s1, s2)).1]
      simp -implicitDefEqProofs only [evs, reduceIte, rdRes, rdTT, rdTy, rdLT, Res.un, TT.un, Ty.un, LT.un, Leaf.un, Leaf.plain, LT.plain]
      rw [rds_c2 f2]
      simp -implicitDefEqProofs only [evs, reduceIte, rdRes, rdTT, rdTy, rdLT, Res.un, TT.un, Ty.un, LT.un, Leaf.un, Leaf.plain, LT.plain]
      rw [w3]
      simp -implicitDefEqProofs only [evs, reduceIte, rdRes, rdTT, rdTy, rdLT, Res.un, TT.un, Ty.un, LT.un, Leaf.un, Leaf.plain, LT.plain]
      rw [r3]
      simp -implicitDefEqProofs only [evs, reduceIte, rdRes, rdTT, rdTy, rdLT, Res.un, TT.un, Ty.un, LT.un, Leaf.un, Leaf.plain, LT.plain]
  · rw [decide_eq_false he, if_neg he]
    simp -implicitDefEqProofs only [evs, reduceIte, rdRes, rdTT, rdTy, rdLT, Res.un, TT.un, Ty.un, LT.un, Leaf.un, Leaf.plain, LT.plain]
    rw [w0]
    simp -implicitDefEqProofs only [evs, reduceIte, rdRes, rdTT, rdTy, rdLT, Res.un, TT.un, Ty.un, LT.un, Leaf.un, Leaf.plain, LT.plain]
    rw [r0]
    simp -implicitDefEqProofs only [evs, reduceIte, rdRes, rdTT, rdTy, rdLT, Res.un, TT.un, Ty.un, LT.un, Leaf.un, Leaf.plain, LT.plain]
end Go.Proofs.Ytaepkinihaipkaa
/- The strength of a sum lies in the band of strengths. Conditions: those of each law. -/
namespace Go.Proofs.Ytaepkinihaipkaa
open Go Go.Proofs.Ytaepkinihaipkaa.Ev
set_option linter.unusedVariables false
set_option linter.unusedSimpArgs false
set_option maxRecDepth 100000
set_option maxHeartbeats 4000000
theorem strength_above {xs : List (Int × Int)} {x : Int × Int} (h : acheckOf xs x = 0) (hn : ¬(x.1 = 0 ∧ x.2 = 0)) :
    (∀ q : Nat, (q : Int) ≤ (strengthOf xs x).1 → above xs x q = false) ∧ ∀ q : Nat, (strengthOf xs x).1 < q → q < 10001 → above xs x q = true := by
  obtain ⟨a, v⟩ := x
  obtain ⟨r, er, hcase⟩ := Strength_ok xs a v
  have hs : strengthOf xs (a, v) = r := by unfold strengthOf; rw [er]; rfl
  rw [hs]
  rcases hcase with ⟨h1, _⟩ | ⟨_, ha, hv, _⟩ | ⟨_, _, m, m1, rfl, m3, m4⟩
  · exact absurd h h1
  · exact absurd ⟨ha, hv⟩ hn
  · exact ⟨fun q hq => m3 q (by simp only at hq; omega), fun q hq hq2 => m4 q (by simp only at hq; omega) hq2⟩
theorem no_volume {xs : List (Int × Int)} {x : Int × Int} (h : acheckOf xs x = 0) (hv : x.2 = 0) : x.1 = 0 := by
  obtain ⟨ck, hin, hmax⟩ := acheck_zero h
  have hd := dens_bound (t := 10000) (check_table ck) (by omega) (by omega)
  have hin := inA_iff.1 hin
  rcases Int.lt_or_le 0 x.1 with h | h
  · have := Int.mul_pos h (show 0 < dens xs 10000 by omega)
    omega
  · omega
theorem sumL_cons (x : Int × Int) (ls : List (Int × Int)) : sumL (x :: ls) = (x.1 + (sumL ls).1, x.2 + (sumL ls).2) := by simp [sumL]
theorem sum_not_above {xs : List (Int × Int)} {k : Nat} : ∀ (ls : List (Int × Int)), (∀ x ∈ ls, acheckOf xs x = 0) → (∀ x ∈ ls, x.2 ≠ 0 → above xs x k = false) → (sumL ls).2 * k ≤ (sumL ls).1 * dens xs k
  | [], _, _ => by simp [sumL]
  | x :: ls, h1, h2 => by
    have ih := sum_not_above ls (fun y hy => h1 y (by simp [hy])) (fun y hy => h2 y (by simp [hy]))
    have hx : x.2 * k ≤ x.1 * dens xs k := by
      by_cases hv : x.2 = 0
      · rw [no_volume (h1 x (by simp)) hv, hv]; simp
      · have := h2 x (by simp) hv
        unfold above at this
        have := of_decide_eq_false this
        omega
    rw [sumL_cons]
    simp only [Int.add_mul]
    omega
theorem sum_above {xs : List (Int × Int)} {k : Nat} : ∀ (ls : List (Int × Int)), (∀ x ∈ ls, acheckOf xs x = 0) → (∀ x ∈ ls, x.2 ≠ 0 → above xs x k = true) →
    ((sumL ls).1 * dens xs k ≤ (sumL ls).2 * k ∧ ((∃ x ∈ ls, x.2 ≠ 0) → (sumL ls).1 * dens xs k < (sumL ls).2 * k))
  | [], _, _ => by simp [sumL]
  | x :: ls, h1, h2 => by
    have ih := sum_above ls (fun y hy => h1 y (by simp [hy])) (fun y hy => h2 y (by simp [hy]))
    rw [sumL_cons]
    simp only [Int.add_mul]
    by_cases hv : x.2 = 0
    · rw [no_volume (h1 x (by simp)) hv, hv]
      simp only [Int.zero_mul, Int.zero_add]
      refine ⟨ih.1, fun ⟨y, hy, hyv⟩ => ih.2 ?_⟩
      rcases List.mem_cons.1 hy with rfl | hy
      · exact absurd hv hyv
      · exact ⟨y, hy, hyv⟩
    · have := of_decide_eq_true (h2 x (by simp) hv)
      exact ⟨by omega, fun _ => by omega⟩
theorem fold_band {xs : List (Int × Int)} : ∀ (ls : List (Int × Int)) (b : Int × Int), (ls.foldl (bandStep xs) b).1 ≤ b.1 ∧ b.2 ≤ (ls.foldl (bandStep xs) b).2 ∧
    (∀ x ∈ ls, x.2 ≠ 0 → (ls.foldl (bandStep xs) b).1 ≤ (strengthOf xs x).1 ∧ (strengthOf xs x).1 ≤ (ls.foldl (bandStep xs) b).2) ∧
    ((ls.foldl (bandStep xs) b).1 = b.1 ∨ ∃ x ∈ ls, x.2 ≠ 0 ∧ (strengthOf xs x).1 = (ls.foldl (bandStep xs) b).1) ∧ ((ls.foldl (bandStep xs) b).2 = b.2 ∨ ∃ x ∈ ls, x.2 ≠ 0 ∧ (strengthOf xs x).1 = (ls.foldl (bandStep xs) b).2)
  | [], b => by simp
  | y :: ls, b => by
    obtain ⟨i1, i2, i3, i4, i5⟩ := fold_band ls (bandStep xs b y)
    rw [List.foldl_cons]
    generalize ls.foldl (bandStep xs) (bandStep xs b y) = r at *
    have hb : bandStep xs b y = if y.2 = 0 then b else (min b.1 (strengthOf xs y).1, max b.2 (strengthOf xs y).1) := rfl
    by_cases hy : y.2 = 0
    · rw [if_pos hy] at hb
      rw [hb] at i1 i2 i4 i5
      refine ⟨i1, i2, fun x hx hv => ?_, ?_, ?_⟩
      · rcases List.mem_cons.1 hx with rfl | hx
        · exact absurd hy hv
        · exact i3 x hx hv
      · rcases i4 with h | ⟨x, hx, h⟩
        · exact .inl h
        · exact .inr ⟨x, by simp [hx], h⟩
      · rcases i5 with h | ⟨x, hx, h⟩
        · exact .inl h
        · exact .inr ⟨x, by simp [hx], h⟩
    · rw [if_neg hy] at hb
      rw [hb] at i1 i2 i4 i5
      simp only at i1 i2 i4 i5
      refine ⟨by clear i4 i5; omega, by clear i4 i5; omega, fun x hx hv => ?_, ?_, ?_⟩
      · rcases List.mem_cons.1 hx with rfl | hx
        · clear i4 i5; omega
        · exact i3 x hx hv
      · rcases i4 with h | ⟨x, hx, h⟩
        · by_cases c : b.1 ≤ (strengthOf xs y).1
          · exact .inl (by clear i5; omega)
          · exact .inr ⟨y, by simp, hy, by clear i5; omega⟩
        · exact .inr ⟨x, by simp [hx], h⟩
      · rcases i5 with h | ⟨x, hx, h⟩
        · by_cases c : (strengthOf xs y).1 ≤ b.2
          · exact .inl (by clear i4; omega)
          · exact .inr ⟨y, by simp, hy, by clear i4; omega⟩
        · exact .inr ⟨x, by simp [hx], h⟩
theorem mixture_zero {xs ls : List (Int × Int)} (h : (mixtureOf xs ls).2 = 0) : ls.length ≤ 8 ∧ (checkOf xs).2 = 0 ∧ (∀ x ∈ ls, acheckOf xs x = 0) ∧ (∀ x ∈ ls, isPlain x = true) ∧ isPlain (sumL ls) = true ∧ (mixtureOf xs ls).1 = sumL ls ∧ sumOf ls = (sumL ls, 0) := by
  have h8 := mixture_short h
  unfold mixtureOf at h ⊢
  rw [if_neg (by omega)] at h ⊢
  by_cases hc : (checkOf xs).2 = 0
  · rw [if_pos hc] at h ⊢
    by_cases ha : ls.any (fun x => !decide (acheckOf xs x = 0)) = true
    · rw [if_pos ha] at h; simp at h
    · rw [if_neg ha] at h ⊢
      rw [Bool.not_eq_true] at ha
      have hck : ∀ x ∈ ls, acheckOf xs x = 0 := fun x hx => by
        have := List.any_eq_false.1 ha x hx
        simpa using this
      unfold sumOf at h ⊢
      rw [if_neg (by omega)] at h ⊢
      by_cases hp : ls.any (fun x => !isPlain x) = true
      · rw [if_pos hp] at h; simp at h
      · rw [if_neg hp] at h ⊢
        rw [Bool.not_eq_true] at hp
        have hpl : ∀ x ∈ ls, isPlain x = true := fun x hx => by
          have := List.any_eq_false.1 hp x hx
          simpa using this
        by_cases hs : isPlain (sumL ls) = true
        · rw [if_pos hs]
          exact ⟨h8, hc, hck, hpl, hs, rfl, rfl⟩
        · rw [if_neg hs] at h; simp at h
  · rw [if_neg hc] at h; simp at h
/-- The band of a mixture, and its strength in it. -/
theorem band_law {xs ls : List (Int × Int)} (h : (mixtureOf xs ls).2 = 0) (hv : (sumL ls).2 ≠ 0) :
    (strengthOf xs (sumL ls)).2 = 0 ∧ (bandOf xs ls).1 ≤ (strengthOf xs (sumL ls)).1 ∧ (strengthOf xs (sumL ls)).1 ≤ (bandOf xs ls).2 ∧
    (∃ x ∈ ls, x.2 ≠ 0 ∧ (strengthOf xs x).1 = (bandOf xs ls).1) ∧ (∃ x ∈ ls, x.2 ≠ 0 ∧ (strengthOf xs x).1 = (bandOf xs ls).2) ∧ ∀ x ∈ ls, x.2 ≠ 0 → (strengthOf xs x).2 = 0 ∧ (bandOf xs ls).1 ≤ (strengthOf xs x).1 ∧ (strengthOf xs x).1 ≤ (bandOf xs ls).2 := by
  obtain ⟨h8, hc, hck, hpl, hps, _, _⟩ := mixture_zero h
  have ht := check_table hc
  have hps' := isPlain_iff.1 hps
  have hex : ∃ x ∈ ls, x.2 ≠ 0 := by
    refine Classical.byContradiction fun hno => hv ?_
    have hall : ∀ x ∈ ls, x.2 = 0 := fun x hx => Classical.byContradiction fun hx2 => hno ⟨x, hx, hx2⟩
    have : ∀ (l : List (Int × Int)), (∀ x ∈ l, x.2 = 0) → (sumL l).2 = 0 := fun l => by
      induction l with
      | nil => intro _; rfl
      | cons y l ih => intro hl; rw [sumL_cons]; simp only [hl y (by simp), ih fun x hx => hl x (by simp [hx])]; rfl
    exact this ls hall
  have hst : ∀ x, acheckOf xs x = 0 → (strengthOf xs x).2 = 0 ∧ 0 ≤ (strengthOf xs x).1 ∧ (strengthOf xs x).1 ≤ 10000 := fun x hx => by
    rcases (strengthOf_ok xs x).2 with ⟨h1, _⟩ | ⟨_, h2⟩
    · exact absurd hx h1
    · exact h2
  have hsum : acheckOf xs (sumL ls) = 0 := by
    have : ∀ (l : List (Int × Int)), (∀ x ∈ l, acheckOf xs x = 0) → (sumL l).1 * dens xs 10000 ≤ (sumL l).2 * 10000 := fun l => by
      induction l with
      | nil => intro _; simp [sumL]
      | cons y l ih =>
        intro hl
        have k1 := (acheck_zero (hl y (by simp))).2.2
        have k2 := ih fun x hx => hl x (by simp [hx])
        rw [sumL_cons]
        simp only [Int.add_mul]
        omega
    have := this ls hck
    unfold acheckOf
    rw [if_pos hc, if_pos (inA_iff.2 (by omega)), if_neg (by omega)]
  obtain ⟨b1, b2, b3, b4, b5⟩ := fold_band (xs := xs) ls (10000, 0)
  have hb : ls.foldl (bandStep xs) (10000, 0) = bandOf xs ls := rfl
  rw [hb] at b1 b2 b3 b4 b5
  generalize bandOf xs ls = b at *
  simp only at b1 b2 b4 b5
  obtain ⟨x0, hx0, hv0⟩ := hex
  have s0 := hst x0 (hck x0 hx0)
  have b0 := b3 x0 hx0 hv0
  have ss := hst _ hsum
  have sa := strength_above hsum (fun hn => hv hn.2)
  refine ⟨ss.1, ?_, ?_, ?_, ?_, fun x hx hxv => ⟨(hst x (hck x hx)).1, b3 x hx hxv⟩⟩
  · clear b4 b5
    rcases Int.lt_or_le (strengthOf xs (sumL ls)).1 b.1 with hlt | hle
    · have hk := sa.2 b.1.toNat (by omega) (by omega)
      have := sum_not_above (k := b.1.toNat) ls hck fun x hx hxv => (strength_above (hck x hx) (fun hn => hxv hn.2)).1 b.1.toNat (by have := (b3 x hx hxv).1; omega)
      have hk := of_decide_eq_true hk
      omega
    · exact hle
  · clear b4 b5
    rcases Int.lt_or_le b.2 (strengthOf xs (sumL ls)).1 with hlt | hle
    · have hk := sa.1 (b.2 + 1).toNat (by omega)
      have := (sum_above (k := (b.2 + 1).toNat) ls hck fun x hx hxv => (strength_above (hck x hx) (fun hn => hxv hn.2)).2 (b.2 + 1).toNat (by have := (b3 x hx hxv).2; omega) (by omega)).2 ⟨x0, hx0, hv0⟩
      rw [above, decide_eq_true this] at hk
      cases hk
    · exact hle
  · clear b5
    rcases b4 with h | h
    · exact ⟨x0, hx0, hv0, by omega⟩
    · exact h
  · clear b4
    rcases b5 with h | h
    · exact ⟨x0, hx0, hv0, by omega⟩
    · exact h
end Go.Proofs.Ytaepkinihaipkaa
/- What mix.Contraction computes. Conditions: those of each law. -/
namespace Go.Proofs.Ytaepkinihaipkaa
open Go Go.Proofs.Ytaepkinihaipkaa.Ev
set_option linter.unusedVariables false
set_option linter.unusedSimpArgs false
set_option maxRecDepth 100000
set_option maxHeartbeats 4000000
theorem volOf_bound {xs : List (Int × Int)} {x : Int × Int} : 0 ≤ (volOf xs x).1 ∧ (volOf xs x).1 ≤ 128849018880000 := by
  obtain ⟨hs, hcase⟩ := strengthOf_ok xs x
  unfold volOf
  by_cases h : (strengthOf xs x).2 = 0
  · rw [if_pos h]
    rcases hcase with ⟨_, h2⟩ | ⟨h1, _, h3, h4⟩
    · rw [h2] at h; simp at h
    · obtain ⟨ck, hin, hmax⟩ := acheck_zero h1
      have hd := dens_bound (check_table ck) h3 h4
      have hin' := inA_iff.1 hin
      have k1 : 0 ≤ x.2 / dens xs (strengthOf xs x).1 := Int.ediv_nonneg hin'.2.2.1 (by omega)
      have k2 : x.2 / dens xs (strengthOf xs x).1 ≤ x.2 := Int.ediv_le_self _ hin'.2.2.1
      exact ⟨k1, by omega⟩
  · rw [if_neg h]; simp
noncomputable def volSum (xs ls : List (Int × Int)) : Int := (ls.map fun x => (volOf xs x).1).sum
theorem volSum_take {xs ls : List (Int × Int)} {i : Nat} {x : Int × Int} (h : ls[i]? = some x) : volSum xs (ls.take (i + 1)) = volSum xs (ls.take i) + (volOf xs x).1 := by
  obtain ⟨hi, rfl⟩ := List.getElem?_eq_some_iff.1 h
  unfold volSum
  rw [← List.take_append_getElem hi, List.map_append, List.sum_append]
  simp
theorem volSum_bound (xs : List (Int × Int)) : ∀ (ls : List (Int × Int)), 0 ≤ volSum xs ls ∧ volSum xs ls ≤ ls.length * 128849018880000
  | [] => by simp [volSum]
  | x :: ls => by
    have h1 := volSum_bound xs ls
    have h2 := volOf_bound (xs := xs) (x := x)
    unfold volSum at h1 ⊢
    simp only [List.map_cons, List.sum_cons, List.length_cons]
    omega
def slotsC (s : Int × Int) (ls : List (Int × Int)) (i : Nat) : List Slot := c2 s :: (ls.take i).map c2
theorem slotsC_succ {s : Int × Int} {ls : List (Int × Int)} {i : Nat} {x : Int × Int} (h : ls[i]? = some x) : slotsC s ls i ++ [c2 x] = slotsC s ls (i + 1) := by
  unfold slotsC
  obtain ⟨hi, rfl⟩ := List.getElem?_eq_some_iff.1 h
  rw [← List.take_append_getElem hi, List.map_append]
  rfl
theorem contr_loop {xs ls : List (Int × Int)} {s : Int × Int} {c : Int} {f g : Bool} (hl : ls.length ≤ 8) (hc : -128849018880000 ≤ c ∧ c ≤ 0) :
    iter FUEL (mix_Contraction.loop1 (rowSV f j2 xs) (rowSV g j2 ls)) ((c, 0), hL [c2 s]) = some (.ex0 (c + volSum xs ls), hL (slotsC s ls ls.length)) := by
  refine (iter_from (f := mix_Contraction.loop1 (rowSV f j2 xs) (rowSV g j2 ls)) (fun i => ((c + volSum xs (ls.take i), (i : Int)), hL (slotsC s ls i))) ?_ ls.length FUEL (fun i hi => ?_) ?_ (fuel_gt (by omega)))
  · simp only [List.take_zero, volSum, List.map_nil, List.sum_nil, Int.add_zero]
    rfl
  · have hget := List.getElem?_eq_getElem hi
    generalize hxi : ls[i] = x at *
    have hrow : (slotsC s ls i ++ [c2 x])[(slotsC s ls i).length]? = some (c2 x) := by simp
    have r2 := rds_c2 hrow
    have nw := new_c2 (sl := slotsC s ls i) (x := x)
    have hsucc := slotsC_succ (s := s) hget
    have hv := volOf_bound (xs := xs) (x := x)
    have hb := volSum_bound xs (ls.take i)
    rw [List.length_take, Nat.min_eq_left (by omega)] at hb
    have hg1 : 0 ≤ (i : Int) ∧ (i : Int) < (ls.length : Int) := by omega
    unfold mix_Contraction.loop1
    simp -implicitDefEqProofs only [Int.toNat_natCast, rowSV_len, guardO_pos hg1]
    rw [decide_eq_true hg1.2, cond_true, rds_rowF (ls := j2) (w := 2) rfl (by omega) rfl, hget]
    simp -implicitDefEqProofs only [Option.bind_some, hL_new, hL_next]
    rw [nw]
    simp -implicitDefEqProofs only [Option.bind_some]
    rw [r2]
    simp -implicitDefEqProofs only [evs, reduceIte, rdRes, rdTT, rdTy, rdLT, Res.un, TT.un, Ty.un, LT.un, Leaf.un, Leaf.plain, LT.plain]
    rw [Volume_ok]
    simp -implicitDefEqProofs only [evs, reduceIte, rdRes, rdTT, rdTy, rdLT, Res.un, TT.un, Ty.un, LT.un, Leaf.un, Leaf.plain, LT.plain]
    rw [show volOf xs (x.1, x.2) = volOf xs x from rfl]
    rw [i64_in _ (by omega), i64_succ (by omega), hsucc, volSum_take hget, Int.add_assoc]
  · unfold mix_Contraction.loop1
    simp -implicitDefEqProofs only [rowSV_len]
    rw [decide_eq_false (by omega), cond_false, List.take_length]
noncomputable def contractionOf (xs ls : List (Int × Int)) : Int × Int :=
  if (mixtureOf xs ls).2 = 0 then (0 - (volOf xs (mixtureOf xs ls).1).1 + volSum xs ls, 0) else (0, (mixtureOf xs ls).2)
theorem Contraction_ok (xs ls : List (Int × Int)) (hl : ls.length < 2 ^ 63) : mix_ContractionP xs ls = some (contractionOf xs ls) := by
  unfold mix_ContractionP mix_Contraction contractionOf
  simp -implicitDefEqProofs only [evs, reduceIte, rdRes, rdTT, rdTy, rdLT, Res.un, TT.un, Ty.un, LT.un, Leaf.un, Leaf.plain, LT.plain]
  rw [mixture_ok xs ls hl]
  have hshort := mixture_short (xs := xs) (ls := ls)
  generalize mixtureOf xs ls = m at *
  obtain ⟨⟨s1, s2⟩, e⟩ := m
  simp only at hshort
  have nw := new_c2 (sl := []) (x := (s1, s2))
  have e0 : [c2 (s1, s2)][0]? = some (c2 (s1, s2)) := rfl
  have r0 := rds_c2 e0
  simp only [c2, List.cons_append, List.nil_append, List.length_cons, List.length_nil, Nat.zero_add] at nw r0
  simp -implicitDefEqProofs only [evs, reduceIte, rdRes, rdTT, rdTy, rdLT, Res.un, TT.un, Ty.un, LT.un, Leaf.un, Leaf.plain, LT.plain, hL_empty, hL_new, hL_next, List.nil_append, List.length_nil]
  rw [nw]
  simp -implicitDefEqProofs only [evs, reduceIte, rdRes, rdTT, rdTy, rdLT, Res.un, TT.un, Ty.un, LT.un, Leaf.un, Leaf.plain, LT.plain]
  by_cases he : e = 0
  · rw [decide_eq_true he, if_pos he]
    simp -implicitDefEqProofs only [evs, reduceIte, rdRes, rdTT, rdTy, rdLT, Res.un, TT.un, Ty.un, LT.un, Leaf.un, Leaf.plain, LT.plain]
    rw [r0]
    simp -implicitDefEqProofs only [evs, reduceIte, rdRes, rdTT, rdTy, rdLT, Res.un, TT.un, Ty.un, LT.un, Leaf.un, Leaf.plain, LT.plain]
    rw [Volume_ok]
    have hv := volOf_bound (xs := xs) (x := (s1, s2))
    simp -implicitDefEqProofs only [evs, reduceIte, rdRes, rdTT, rdTy, rdLT, Res.un, TT.un, Ty.un, LT.un, Leaf.un, Leaf.plain, LT.plain]
    rw [i64_in _ (by omega)]
    have hloop := contr_loop (xs := xs) (ls := ls) (s := (s1, s2)) (c := 0 - (volOf xs (s1, s2)).1) (f := false) (g := false) (hshort he) (by omega)
    simp only [c2] at hloop
    rw [hloop]
    simp -implicitDefEqProofs only [evs, reduceIte, rdRes, rdTT, rdTy, rdLT, Res.un, TT.un, Ty.un, LT.un, Leaf.un, Leaf.plain, LT.plain]
  · rw [decide_eq_false he, if_neg he]
    simp -implicitDefEqProofs only [evs, reduceIte, rdRes, rdTT, rdTy, rdLT, Res.un, TT.un, Ty.un, LT.un, Leaf.un, Leaf.plain, LT.plain]
end Go.Proofs.Ytaepkinihaipkaa
/- What slices.Reverse does to liquids of the call's own. Conditions: those of each law. -/
namespace Go.Proofs.Ytaepkinihaipkaa
open Go Go.Proofs.Ytaepkinihaipkaa.Ev
set_option linter.unusedVariables false
set_option linter.unusedSimpArgs false
set_option maxRecDepth 100000
set_option maxHeartbeats 4000000
/-- Liquids of which the first and the last k are turned. -/
def turn (ls : List (Int × Int)) (k : Nat) : List (Int × Int) := (List.range ls.length).map fun p => if p < k ∨ ls.length ≤ p + k then q2 ls (ls.length - 1 - p) else q2 ls p
theorem turn_length {ls : List (Int × Int)} {k : Nat} : (turn ls k).length = ls.length := by simp [turn]
theorem turn_get {ls : List (Int × Int)} {k p : Nat} (h : p < ls.length) : (turn ls k)[p]? = some (if p < k ∨ ls.length ≤ p + k then q2 ls (ls.length - 1 - p) else q2 ls p) := by
  unfold turn
  rw [List.getElem?_map, List.getElem?_range h]
  rfl
theorem turn_zero {ls : List (Int × Int)} : turn ls 0 = ls := by
  refine List.ext_getElem? fun p => ?_
  by_cases h : p < ls.length
  · rw [turn_get h, if_neg (by omega), q2_some h]
  · rw [List.getElem?_eq_none (by rw [turn_length]; omega), List.getElem?_eq_none (by omega)]
theorem turn_succ {ls : List (Int × Int)} {k : Nat} (h : k < ls.length - 1 - k) : ((turn ls k).set k (q2 ls (ls.length - 1 - k))).set (ls.length - 1 - k) (q2 ls k) = turn ls (k + 1) := by
  refine List.ext_getElem? fun p => ?_
  by_cases hp : p < ls.length
  · rw [turn_get hp, List.getElem?_set, List.getElem?_set, turn_get hp]
    simp only [List.length_set, turn_length]
    by_cases h1 : ls.length - 1 - k = p
    · rw [if_pos h1, if_pos (by omega), if_pos (by omega), show ls.length - 1 - p = k by omega]
    · rw [if_neg h1]
      by_cases h2 : k = p
      · rw [if_pos h2, if_pos (by omega), if_pos (by omega), h2]
      · rw [if_neg h2]
        by_cases h3 : p < k ∨ ls.length ≤ p + k
        · rw [if_pos h3, if_pos (by omega)]
        · rw [if_neg h3, if_neg (by omega)]
  · rw [List.getElem?_eq_none (by rw [List.length_set, List.length_set, turn_length]; omega), List.getElem?_eq_none (by rw [turn_length]; omega)]
theorem turn_end {ls : List (Int × Int)} {k : Nat} (h : ls.length ≤ 2 * k + 1) : turn ls k = ls.reverse := by
  refine List.ext_getElem? fun p => ?_
  by_cases hp : p < ls.length
  · rw [turn_get hp, List.getElem?_reverse hp, q2_some (xs := ls) (i := ls.length - 1 - p) (by omega)]
    by_cases h3 : p < k ∨ ls.length ≤ p + k
    · rw [if_pos h3]
    · rw [if_neg h3, show ls.length - 1 - p = p by omega]
  · rw [List.getElem?_eq_none (by rw [turn_length]; omega), List.getElem?_eq_none (by rw [List.length_reverse]; omega)]
theorem own_add {id n k : Nat} : V.add (ownSV id j2 n).a (k * 2) = .hp id (n * 2) (k * 2) := by
  simp [ownSV, V.add]
theorem own_len {id n : Nat} : (ownSV id j2 n).len = n := rfl
theorem rds_own2 {xs : List (Int × Int)} {sl : List Slot} {id i n : Nat} {x : Int × Int} (hs : sl[id]? = some (.own (cellsL j2 xs) 2)) (hn : xs.length = n) (hx : xs[i]? = some x) : rdT (.agg j2) (hL sl) (.hp id (n * 2) (i * 2)) = some x := by
  rw [rds_ownL (ls := j2) (xs := xs) (w := 2) (n := n * 2) hs (by rw [hn]; rfl) rfl rfl (by omega), hx]
  rfl
theorem Reverse_ok {sl : List Slot} {ls : List (Int × Int)} (h64 : ls.length < 2 ^ 63) :
    slices_Reverse_api_Liquid_api_Liquid (ownSV sl.length j2 ls.length) (hL (sl ++ [.own (cellsL j2 ls) 2])) = some ((), hL (sl ++ [.own (cellsL j2 ls.reverse) 2])) := by
  unfold slices_Reverse_api_Liquid_api_Liquid
  simp -implicitDefEqProofs only [own_len]
  by_cases h0 : ls.length = 0
  · have : ls = [] := List.eq_nil_of_length_eq_zero h0
    subst this
    have : iter FUEL (slices_Reverse_api_Liquid_api_Liquid.loop1 (ownSV sl.length j2 0)) ((0, IntKind.wrap .i64 (((0 : Nat) : Int) - 1)), hL (sl ++ [.own (cellsL j2 []) 2])) = some (.ex0 (), hL (sl ++ [.own (cellsL j2 []) 2])) := by
      refine iter_from (f := slices_Reverse_api_Liquid_api_Liquid.loop1 (ownSV sl.length j2 0)) (fun _ => ((0, IntKind.wrap .i64 (((0 : Nat) : Int) - 1)), hL (sl ++ [.own (cellsL j2 []) 2]))) rfl 0 FUEL (fun i hi => by omega) ?_ (fuel_gt (by omega))
      unfold slices_Reverse_api_Liquid_api_Liquid.loop1
      simp -implicitDefEqProofs only [own_len]
      rw [i64_in _ (by omega), decide_eq_false (by omega), cond_false]
    simp -implicitDefEqProofs only [List.length_nil]
    rw [this]
    rfl
  · have hloop : iter FUEL (slices_Reverse_api_Liquid_api_Liquid.loop1 (ownSV sl.length j2 ls.length)) ((0, IntKind.wrap .i64 ((ls.length : Int) - 1)), hL (sl ++ [.own (cellsL j2 ls) 2])) = some (.ex0 (), hL (sl ++ [.own (cellsL j2 ls.reverse) 2])) := by
      refine iter_from (f := slices_Reverse_api_Liquid_api_Liquid.loop1 (ownSV sl.length j2 ls.length)) (fun k => (((k : Int), (ls.length : Int) - 1 - k), hL (sl ++ [.own (cellsL j2 (turn ls k)) 2]))) ?_ (ls.length / 2) FUEL (fun k hk => ?_) ?_ (fuel_gt (by omega))
      · rw [turn_zero, i64_in _ (by omega), Int.natCast_zero, Int.sub_zero]
      · have hsl : ∀ (c : List V), (sl ++ [Slot.own c 2])[sl.length]? = some (.own c 2) := fun c => by simp
        have ex : (ls.length : Int) - 1 - (k : Int) = ((ls.length - 1 - k : Nat) : Int) := by omega
        have r1 := rds_own2 (n := ls.length) (i := ls.length - 1 - k) (hsl (cellsL j2 (turn ls k))) turn_length (turn_get (by omega))
        have r2 := rds_own2 (n := ls.length) (i := k) (hsl (cellsL j2 (turn ls k))) turn_length (turn_get (by omega))
        rw [if_neg (by omega)] at r1 r2
        have w1 := wrs_ownL (ls := j2) (xs := turn ls k) (n := ls.length * 2) (i := k) (w := 2) (x := q2 ls (ls.length - 1 - k)) (e := 2) (vs := [.int .i64 (q2 ls (ls.length - 1 - k)).1, .int .i64 (q2 ls (ls.length - 1 - k)).2]) (hsl _) (by rw [turn_length]; rfl) rfl (by rw [turn_length]; omega) rfl
        have w2 := wrs_ownL (ls := j2) (xs := (turn ls k).set k (q2 ls (ls.length - 1 - k))) (n := ls.length * 2) (i := ls.length - 1 - k) (w := 2) (x := q2 ls k) (e := 2) (vs := [.int .i64 (q2 ls k).1, .int .i64 (q2 ls k).2]) (hsl _) (by rw [List.length_set, turn_length]; rfl) rfl (by rw [List.length_set, turn_length]; omega) rfl
        have hset : ∀ (a b : Slot), (sl ++ [a]).set sl.length b = sl ++ [b] := fun a b => by simp
        rw [hset] at w1 w2
        rw [turn_succ (by omega)] at w2
        have hg1 : (0 : Int) ≤ ((ls.length - 1 - k : Nat) : Int) ∧ ((ls.length - 1 - k : Nat) : Int) < (ls.length : Int) := by omega
        have hg2 : (0 : Int) ≤ (k : Int) ∧ (k : Int) < (ls.length : Int) := by omega
        unfold slices_Reverse_api_Liquid_api_Liquid.loop1
        simp -implicitDefEqProofs only [ex, own_len, own_add, Int.toNat_natCast, reserve0, guardO_pos hg1, guardO_pos hg2]
        rw [decide_eq_true (by omega), cond_true, r1]
        simp -implicitDefEqProofs only [Option.bind_some]
        rw [r2]
        simp -implicitDefEqProofs only [Option.bind_some]
        rw [w1]
        simp -implicitDefEqProofs only [Option.bind_some]
        rw [w2]
        simp -implicitDefEqProofs only [Option.bind_some]
        rw [i64_succ (by omega), i64_in _ (by omega), show ((ls.length - 1 - k : Nat) : Int) - 1 = (ls.length : Int) - 1 - ((k + 1 : Nat) : Int) by omega]
      · unfold slices_Reverse_api_Liquid_api_Liquid.loop1
        simp -implicitDefEqProofs only [own_len]
        rw [decide_eq_false (by omega), cond_false, turn_end (by omega)]
    rw [hloop]
    rfl
/-- A copy of liquids, turned. -/
theorem turned_ok {f : Bool} {s : Int × Int} {ls : List (Int × Int)} (hl : ls.length ≤ 8) :
    ∃ r h13 sl, cloneX 2 16 (rowSV f j2 ls) (hL [c2 s]) = some (r, h13) ∧ slices_Reverse_api_Liquid_api_Liquid r h13 = some ((), hL (c2 s :: sl)) ∧ ∀ J, rdRow true (hL (c2 s :: (sl ++ J))) j2 r = some ls.reverse := by
  have hc := cloneX_row (f := f) (ls := j2) (xs := ls) (w := 2) (b := 16) (sl := [c2 s]) rfl (by omega) rfl (by omega) (by omega)
  by_cases h : ls.length = 0
  · rw [if_pos h, if_pos h] at hc
    have : ls = [] := List.eq_nil_of_length_eq_zero h
    subst this
    refine ⟨_, _, [], hc, ?_, fun J => rdRow_nil⟩
    unfold slices_Reverse_api_Liquid_api_Liquid
    have : iter FUEL (slices_Reverse_api_Liquid_api_Liquid.loop1 ⟨.lp true [] 0, 0, 0, false⟩) ((0, IntKind.wrap .i64 (((0 : Nat) : Int) - 1)), hL [c2 s]) = some (.ex0 (), hL [c2 s]) := by
      refine iter_from (f := slices_Reverse_api_Liquid_api_Liquid.loop1 ⟨.lp true [] 0, 0, 0, false⟩) (fun _ => ((0, IntKind.wrap .i64 (((0 : Nat) : Int) - 1)), hL [c2 s])) rfl 0 FUEL (fun i hi => by omega) ?_ (fuel_gt (by omega))
      unfold slices_Reverse_api_Liquid_api_Liquid.loop1
      simp only
      rw [i64_in _ (by omega), decide_eq_false (by omega), cond_false]
    simp only
    rw [this]
    rfl
  · rw [if_neg h, if_neg h] at hc
    refine ⟨_, _, [.own (cellsL j2 ls.reverse) 2], hc, Reverse_ok (sl := [c2 s]) (by omega), fun J => ?_⟩
    have := rdRow_own (lp := true) (ls := j2) (xs := ls.reverse) (sl := c2 s :: ([.own (cellsL j2 ls.reverse) 2] ++ J)) (id := 1) (e := 2) (n := ls.length * 2) (c := ls.length) (t := true) rfl (by rw [List.length_reverse]; rfl) rfl
    rw [List.length_reverse] at this
    exact this
end Go.Proofs.Ytaepkinihaipkaa
/- The law MixSteps in plain numbers. Conditions: none. -/
namespace Go.Proofs.Ytaepkinihaipkaa
open Go Go.Proofs.Ytaepkinihaipkaa.Ev
set_option linter.unusedVariables false
set_option linter.unusedSimpArgs false
set_option maxRecDepth 100000
set_option maxHeartbeats 4000000
theorem drawOf_cases (x : Int × Int) (w : Int) : ((drawOf x w).2.2 ≠ 0 ∧ (drawOf x w).1 = (0, 0) ∧ (drawOf x w).2.1 = (0, 0)) ∨
    (isPlain x = true ∧ 0 ≤ w ∧ w ≤ x.2 ∧ drawOf x w = ((x.1 * w / x.2, w), (x.1 - x.1 * w / x.2, x.2 - w), 0)) := by
  unfold drawOf
  cases h : isPlain x with
  | false => exact .inl ⟨by simp, by simp, by simp⟩
  | true =>
    simp only [if_true]
    by_cases h1 : w < 0
    · rw [if_pos h1]; exact .inl ⟨by simp, by simp, by simp⟩
    · rw [if_neg h1]
      by_cases h2 : x.2 < w
      · rw [if_pos h2]; exact .inl ⟨by simp, by simp, by simp⟩
      · rw [if_neg h2]; exact .inr ⟨trivial, by omega, by omega, rfl⟩
theorem drawOf_in {x : Int × Int} {w : Int} (hp : isPlain x = true) (h0 : 0 ≤ w) (h1 : w ≤ x.2) : drawOf x w = ((x.1 * w / x.2, w), (x.1 - x.1 * w / x.2, x.2 - w), 0) := by
  unfold drawOf
  rw [if_pos hp, if_neg (by omega), if_neg (by omega)]
theorem share_bounds {x : Int × Int} {w : Int} (hp : isPlain x = true) (h0 : 0 ≤ w) (h1 : w ≤ x.2) : 0 ≤ x.1 * w / x.2 ∧ x.1 * w / x.2 ≤ x.1 := by
  rw [isPlain_iff] at hp
  rcases Int.lt_or_le 0 x.2 with h | h
  · exact share_le hp.1 h0 h h1
  · have : x.1 = 0 := by omega
    rw [this]; simp
theorem share_full {x : Int × Int} (hp : isPlain x = true) : x.1 * x.2 / x.2 = x.1 := by
  rw [isPlain_iff] at hp
  rcases Int.lt_or_le 0 x.2 with h | h
  · exact Int.mul_ediv_cancel _ (by omega)
  · have : x.1 = 0 := by omega
    rw [this]; simp
theorem rest_plain {x : Int × Int} {w : Int} (hp : isPlain x = true) (h0 : 0 ≤ w) (h1 : w ≤ x.2) : isPlain (x.1 - x.1 * w / x.2, x.2 - w) = true := by
  have hb := share_bounds hp h0 h1
  have hf := share_full hp
  have hp' := hp
  rw [isPlain_iff] at hp ⊢
  simp only
  by_cases e : w = x.2
  · subst e; omega
  · omega
theorem steps_all {x : Int × Int} {w1 w2 : Int} (hp : isPlain x = true) (h1 : 0 ≤ w1) (h2 : 0 ≤ w2) (h4 : w1 + w2 ≤ x.2) :
    0 ≤ x.1 * (w1 + w2) / x.2 - x.1 * w1 / x.2 - (x.1 - x.1 * w1 / x.2) * w2 / (x.2 - w1) ∧ x.1 * (w1 + w2) / x.2 - x.1 * w1 / x.2 - (x.1 - x.1 * w1 / x.2) * w2 / (x.2 - w1) ≤ 1 := by
  have hf := share_full hp
  by_cases e : w1 < x.2
  · exact steps_share ((isPlain_iff.1 hp).1) h1 h2 e h4
  · have e1 : w1 = x.2 := by omega
    have e2 : w2 = 0 := by omega
    subst e1 e2
    rw [Int.add_zero, hf]
    simp
theorem MixSteps_ok (x : Int × Int) (w1 w2 : Int) : spilelaw21_MixStepsP x w1 w2 = some true := by
  obtain ⟨a, v⟩ := x
  unfold spilelaw21_MixStepsP spilelaw21_MixSteps
  simp -implicitDefEqProofs only [awake21, evs, reduceIte, rdRes, rdTT, rdTy, rdLT, Res.un, TT.un, Ty.un, LT.un, Leaf.un, Leaf.plain, LT.plain, evh, List.replicate, splice, LT.pack, Leaf.pack, Nat.reduceAdd, Nat.reduceSub, Nat.reduceLeDiff, Nat.reduceLT, Nat.reduceEqDiff, LT.lo, Leaf.lo]
  rw [Draw_ok]
  rcases drawOf_cases (a, v) w1 with ⟨e1, e2, e3⟩ | ⟨hp, hw0, hw1, hd⟩
  · generalize drawOf (a, v) w1 = d at *
    obtain ⟨d1, d2, d3⟩ := d
    simp only at e1 e2 e3
    subst e2 e3
    simp -implicitDefEqProofs only [evs, reduceIte, rdRes, rdTT, rdTy, rdLT, Res.un, TT.un, Ty.un, LT.un, Leaf.un, Leaf.plain, LT.plain, evh, List.replicate, splice, LT.pack, Leaf.pack, Nat.reduceAdd, Nat.reduceSub, Nat.reduceLeDiff, Nat.reduceLT, Nat.reduceEqDiff, LT.lo, Leaf.lo]
    rw [decide_eq_false e1]
    simp -implicitDefEqProofs only [evs, reduceIte, rdRes, rdTT, rdTy, rdLT, Res.un, TT.un, Ty.un, LT.un, Leaf.un, Leaf.plain, LT.plain, evh, List.replicate, splice, LT.pack, Leaf.pack, Nat.reduceAdd, Nat.reduceSub, Nat.reduceLeDiff, Nat.reduceLT, Nat.reduceEqDiff, LT.lo, Leaf.lo, eq_self, decide_true]
  · rw [hd]
    have hp' := rest_plain hp hw0 hw1
    simp -implicitDefEqProofs only [evs, reduceIte, rdRes, rdTT, rdTy, rdLT, Res.un, TT.un, Ty.un, LT.un, Leaf.un, Leaf.plain, LT.plain, evh, List.replicate, splice, LT.pack, Leaf.pack, Nat.reduceAdd, Nat.reduceSub, Nat.reduceLeDiff, Nat.reduceLT, Nat.reduceEqDiff, LT.lo, Leaf.lo, eq_self, decide_true]
    simp only at hw1 hp'
    rw [Draw_ok]
    rcases drawOf_cases (a - a * w1 / v, v - w1) w2 with ⟨e1, e2, e3⟩ | ⟨_, h20, h21, hd2⟩
    · generalize drawOf (a - a * w1 / v, v - w1) w2 = d at *
      obtain ⟨d1, d2, d3⟩ := d
      simp only at e1 e2 e3
      subst e2 e3
      simp -implicitDefEqProofs only [evs, reduceIte, rdRes, rdTT, rdTy, rdLT, Res.un, TT.un, Ty.un, LT.un, Leaf.un, Leaf.plain, LT.plain, evh, List.replicate, splice, LT.pack, Leaf.pack, Nat.reduceAdd, Nat.reduceSub, Nat.reduceLeDiff, Nat.reduceLT, Nat.reduceEqDiff, LT.lo, Leaf.lo]
      rw [decide_eq_false e1]
      simp -implicitDefEqProofs only [evs, reduceIte, rdRes, rdTT, rdTy, rdLT, Res.un, TT.un, Ty.un, LT.un, Leaf.un, Leaf.plain, LT.plain, evh, List.replicate, splice, LT.pack, Leaf.pack, Nat.reduceAdd, Nat.reduceSub, Nat.reduceLeDiff, Nat.reduceLT, Nat.reduceEqDiff, LT.lo, Leaf.lo, eq_self, decide_true]
    · rw [hd2]
      simp only at h21
      have hv := isPlain_iff.1 hp
      simp only at hv
      simp -implicitDefEqProofs only [evs, reduceIte, rdRes, rdTT, rdTy, rdLT, Res.un, TT.un, Ty.un, LT.un, Leaf.un, Leaf.plain, LT.plain, evh, List.replicate, splice, LT.pack, Leaf.pack, Nat.reduceAdd, Nat.reduceSub, Nat.reduceLeDiff, Nat.reduceLT, Nat.reduceEqDiff, LT.lo, Leaf.lo, eq_self, decide_true]
      rw [i64_in (w1 + w2) (by omega), decide_eq_false (show ¬ v < w1 + w2 by omega)]
      simp -implicitDefEqProofs only [evs, reduceIte, rdRes, rdTT, rdTy, rdLT, Res.un, TT.un, Ty.un, LT.un, Leaf.un, Leaf.plain, LT.plain, evh, List.replicate, splice, LT.pack, Leaf.pack, Nat.reduceAdd, Nat.reduceSub, Nat.reduceLeDiff, Nat.reduceLT, Nat.reduceEqDiff, LT.lo, Leaf.lo]
      rw [Draw_ok, drawOf_in hp (by omega) (show w1 + w2 ≤ v by omega)]
      simp -implicitDefEqProofs only [evs, reduceIte, rdRes, rdTT, rdTy, rdLT, Res.un, TT.un, Ty.un, LT.un, Leaf.un, Leaf.plain, LT.plain, evh, List.replicate, splice, LT.pack, Leaf.pack, Nat.reduceAdd, Nat.reduceSub, Nat.reduceLeDiff, Nat.reduceLT, Nat.reduceEqDiff, LT.lo, Leaf.lo, eq_self, decide_true]
      have hs := steps_all (x := (a, v)) hp hw0 h20 (show w1 + w2 ≤ v by omega)
      simp only at hs
      rw [show v - (w1 + w2) = v - w1 - w2 by omega]
      generalize a * (w1 + w2) / v = q at *
      generalize a * w1 / v = q1 at *
      generalize (a - q1) * w2 / (v - w1) = q2 at *
      simp -implicitDefEqProofs only [evs, reduceIte, rdRes, rdTT, rdTy, rdLT, Res.un, TT.un, Ty.un, LT.un, Leaf.un, Leaf.plain, LT.plain, evh, List.replicate, splice, LT.pack, Leaf.pack, Nat.reduceAdd, Nat.reduceSub, Nat.reduceLeDiff, Nat.reduceLT, Nat.reduceEqDiff, LT.lo, Leaf.lo, eq_self, decide_true]
      rw [i64_in _ (by omega), decide_eq_true (show (-1 : Int) ≤ a - q1 - q2 - (a - q) by omega)]
      simp -implicitDefEqProofs only [evs, reduceIte, rdRes, rdTT, rdTy, rdLT, Res.un, TT.un, Ty.un, LT.un, Leaf.un, Leaf.plain, LT.plain, evh, List.replicate, splice, LT.pack, Leaf.pack, Nat.reduceAdd, Nat.reduceSub, Nat.reduceLeDiff, Nat.reduceLT, Nat.reduceEqDiff, LT.lo, Leaf.lo]
      rw [decide_eq_true (show a - q1 - q2 - (a - q) ≤ 1 by omega)]
end Go.Proofs.Ytaepkinihaipkaa
/- The law MixDraws in plain numbers. Conditions: none. -/
namespace Go.Proofs.Ytaepkinihaipkaa
open Go Go.Proofs.Ytaepkinihaipkaa.Ev
set_option linter.unusedVariables false
set_option linter.unusedSimpArgs false
set_option maxRecDepth 100000
set_option maxHeartbeats 4000000
theorem Few16_ok (xs : List (Int × Int)) : ∃ b, spileref16_FewP xs = some b ∧ (b = true → xs.length ≤ 133) := by
  unfold spileref16_FewP spileref16_Few
  simp -implicitDefEqProofs only [evs, reduceIte, rdRes, rdTT, rdTy, rdLT, Res.un, TT.un, Ty.un, LT.un, Leaf.un, Leaf.plain, LT.plain]
  by_cases h1 : (xs.length : Int) ≤ 20
  · rw [decide_eq_true h1]
    simp -implicitDefEqProofs only [evs, reduceIte, rdRes, rdTT, rdTy, rdLT, Res.un, TT.un, Ty.un, LT.un, Leaf.un, Leaf.plain, LT.plain]
    exact ⟨_, rfl, fun _ => by omega⟩
  · rw [decide_eq_false h1]
    simp -implicitDefEqProofs only [evs, reduceIte, rdRes, rdTT, rdTy, rdLT, Res.un, TT.un, Ty.un, LT.un, Leaf.un, Leaf.plain, LT.plain]
    by_cases h2 : (128 : Int) < (xs.length : Int)
    · rw [decide_eq_true h2]
      simp -implicitDefEqProofs only [evs, reduceIte, rdRes, rdTT, rdTy, rdLT, Res.un, TT.un, Ty.un, LT.un, Leaf.un, Leaf.plain, LT.plain]
      exact ⟨_, rfl, fun h => by have := of_decide_eq_true h; omega⟩
    · rw [decide_eq_false h2]
      simp -implicitDefEqProofs only [evs, reduceIte, rdRes, rdTT, rdTy, rdLT, Res.un, TT.un, Ty.un, LT.un, Leaf.un, Leaf.plain, LT.plain]
      exact ⟨_, rfl, fun h => by simp at h⟩
theorem acheck_parts {xs : List (Int × Int)} {x : Int × Int} (h : acheckOf xs x = 0) : (checkOf xs).2 = 0 ∧ inA x = true ∧ x.1 * dens xs 10000 ≤ x.2 * 10000 := by
  unfold acheckOf at h
  by_cases h1 : (checkOf xs).2 = 0
  · rw [if_pos h1] at h
    by_cases h2 : inA x = true
    · rw [if_pos h2] at h
      by_cases h3 : x.2 * 10000 < x.1 * dens xs 10000
      · rw [if_pos h3] at h; simp at h
      · exact ⟨h1, h2, by omega⟩
    · rw [if_neg h2] at h; simp at h
  · rw [if_neg h1] at h; simp at h
/-- What is less strong in a comparison of ratios is above sooner. -/
theorem ratio_above {a v b w D k : Int} (hv : 0 < v) (hw : 0 < w) (hD : 0 ≤ D) (hr : b * v ≤ a * w) (h : a * D < v * k) : b * D < w * k := by
  have k1 : b * v * D ≤ a * w * D := Int.mul_le_mul_of_nonneg_right hr hD
  have k2 : w * (a * D) < w * (v * k) := Int.mul_lt_mul_of_pos_left h hw
  have e1 : a * w * D = w * (a * D) := by rw [Int.mul_comm a w, Int.mul_assoc]
  have e2 : w * (v * k) = v * (w * k) := Int.mul_left_comm ..
  have e3 : b * v * D = v * (b * D) := by rw [Int.mul_comm b v, Int.mul_assoc]
  exact Int.lt_of_mul_lt_mul_left (a := v) (by omega) (by omega)
theorem ratio_le {a v b w D : Int} (hv : 0 < v) (hw : 0 ≤ w) (hD : 0 ≤ D) (hr : b * v ≤ a * w) (h : a * D ≤ v * 10000) : b * D ≤ w * 10000 := by
  have k1 : b * v * D ≤ a * w * D := Int.mul_le_mul_of_nonneg_right hr hD
  have k2 : w * (a * D) ≤ w * (v * 10000) := Int.mul_le_mul_of_nonneg_left h hw
  have e1 : a * w * D = w * (a * D) := by rw [Int.mul_comm a w, Int.mul_assoc]
  have e2 : w * (v * 10000) = v * (w * 10000) := Int.mul_left_comm ..
  have e3 : b * v * D = v * (b * D) := by rw [Int.mul_comm b v, Int.mul_assoc]
  exact Int.le_of_mul_le_mul_left (a := v) (by omega) hv
/-- The strengths of what is drawn and of what stays. -/
theorem draws_strength {xs : List (Int × Int)} {a v w : Int} {r rd rr : Int × Int} (hp : isPlain (a, v) = true) (h0 : 0 ≤ w) (h1 : w ≤ v) (hr : alcohol_StrengthP xs (a, v) = some r) (hz : r.2 = 0)
    (hrd : alcohol_StrengthP xs (a * w / v, w) = some rd) (hrr : alcohol_StrengthP xs (a - a * w / v, v - w) = some rr) : rd.2 = 0 ∧ rd.1 ≤ r.1 ∧ (rr.2 = 0 → v - w ≠ 0 → r.1 ≤ rr.1) := by
  have hp' := isPlain_iff.1 hp
  simp only at hp'
  have hb := share_bounds hp h0 h1
  simp only at hb
  obtain ⟨r', e, hcase⟩ := Strength_ok xs a v
  rw [hr] at e; cases e
  obtain ⟨rd', ed, hd⟩ := Strength_ok xs (a * w / v) w
  rw [hrd] at ed; cases ed
  obtain ⟨rr', er, hrest⟩ := Strength_ok xs (a - a * w / v) (v - w)
  rw [hrr] at er; cases er
  rcases hcase with ⟨_, rfl⟩ | ⟨hc, ha, hv, rfl⟩ | ⟨hc, hnz, m, m1, rfl, m3, m4⟩
  · simp at hz
  · subst ha hv
    have hw : w = 0 := by omega
    subst hw
    simp only [Int.zero_mul, Int.zero_ediv, Int.sub_self] at hd hrest ⊢
    rcases hd with ⟨hc', _⟩ | ⟨_, _, _, rfl⟩ | ⟨_, hn, _⟩
    · exact absurd hc hc'
    · exact ⟨rfl, Int.le_refl _, fun _ h => absurd rfl h⟩
    · simp at hn
  · obtain ⟨ck, hin, hmax⟩ := acheck_parts hc
    have ht := check_table ck
    simp only at hmax
    have hv : 0 < v := by
      rcases hp'.2.2.2.2 with h | h
      · exact h
      · exact Classical.byContradiction fun hn => hnz ⟨h, Int.le_antisymm (Int.not_lt.1 hn) hp'.2.2.1⟩
    have hratio : a * w / v * v ≤ a * w := Int.ediv_mul_le _ (by omega)
    have hD : ∀ t : Nat, t < 10001 → 0 ≤ dens xs t := fun t h => by
      have := dens_bound (t := t) ht (by omega) (by omega)
      omega
    have hm0 : 0 < m := by
      rcases Nat.eq_zero_or_pos m with h | h
      · have := m4 0 (by omega) (by omega)
        have := of_decide_eq_true this
        simp only [Int.natCast_zero, Int.mul_zero] at this
        have k := Int.mul_nonneg hp'.1 (hD 0 (by omega))
        simp only [Int.natCast_zero] at k
        omega
      · exact h
    have hcd : acheckOf xs (a * w / v, w) = 0 := by
      have hin' := inA_iff.1 hin
      simp only at hin'
      have h10 := hD 10000 (by omega)
      have hn : ((10000 : Nat) : Int) = 10000 := rfl
      rw [hn] at h10
      have := ratio_le hv h0 h10 hratio hmax
      unfold acheckOf
      rw [if_pos ck, if_pos (inA_iff.2 (by simp only; omega)), if_neg (by simp only; omega)]
    refine ⟨?_, ?_, ?_⟩
    · rcases hd with ⟨hc', _⟩ | ⟨_, _, _, rfl⟩ | ⟨_, _, _, _, rfl, _⟩
      · exact absurd hcd hc'
      · rfl
      · rfl
    · rcases hd with ⟨hc', _⟩ | ⟨_, _, _, rfl⟩ | ⟨_, hn, j, j1, rfl, j3, j4⟩
      · exact absurd hcd hc'
      · simp only; omega
      · simp only
        have hw : 0 < w := by
          rcases Int.lt_or_le 0 w with h | h
          · exact h
          · have : w = 0 := by omega
            subst this
            exact absurd ⟨by simp, rfl⟩ hn
        rcases Nat.lt_or_ge m j with h | h
        · have q1 := j3 m h
          have q2 := of_decide_eq_true (m4 m (Nat.le_refl _) (by omega))
          have q3 := ratio_above hv hw (hD m (by omega)) hratio q2
          rw [above, decide_eq_true q3] at q1
          cases q1
        · omega
    · intro hz hne
      rcases hrest with ⟨_, rfl⟩ | ⟨_, _, hv0, rfl⟩ | ⟨_, hn, j, j1, rfl, j3, j4⟩
      · simp at hz
      · exact absurd hv0 hne
      · simp only
        have hvw : 0 < v - w := by omega
        have hratio2 : a * (v - w) ≤ (a - a * w / v) * v := by
          rw [Int.mul_sub, Int.sub_mul]
          omega
        rcases Nat.lt_or_ge j m with h | h
        · have q1 := m3 j h
          have q2 := of_decide_eq_true (j4 j (Nat.le_refl _) (by omega))
          have q3 := ratio_above hvw hv (hD j (by omega)) hratio2 q2
          rw [above, decide_eq_true q3] at q1
          cases q1
        · omega
theorem MixDraws_ok (xs : List (Int × Int)) (x : Int × Int) (w : Int) : spilelaw21_MixDrawsP xs x w = some true := by
  obtain ⟨a, v⟩ := x
  obtain ⟨b, hb, hb2⟩ := Few16_ok xs
  unfold spilelaw21_MixDrawsP spilelaw21_MixDraws
  simp -implicitDefEqProofs only [awake21, evs, reduceIte, rdRes, rdTT, rdTy, rdLT, Res.un, TT.un, Ty.un, LT.un, Leaf.un, Leaf.plain, LT.plain, evh, List.replicate, splice, LT.pack, Leaf.pack, Nat.reduceAdd, Nat.reduceSub, Nat.reduceLeDiff, Nat.reduceLT, Nat.reduceEqDiff, LT.lo, Leaf.lo, hb]
  cases b with
  | false => simp -implicitDefEqProofs only [evs, reduceIte, rdRes, rdTT, rdTy, rdLT, Res.un, TT.un, Ty.un, LT.un, Leaf.un, Leaf.plain, LT.plain, evh, List.replicate, splice, LT.pack, Leaf.pack, Nat.reduceAdd, Nat.reduceSub, Nat.reduceLeDiff, Nat.reduceLT, Nat.reduceEqDiff, LT.lo, Leaf.lo]
  | true =>
    simp -implicitDefEqProofs only [evs, reduceIte, rdRes, rdTT, rdTy, rdLT, Res.un, TT.un, Ty.un, LT.un, Leaf.un, Leaf.plain, LT.plain, evh, List.replicate, splice, LT.pack, Leaf.pack, Nat.reduceAdd, Nat.reduceSub, Nat.reduceLeDiff, Nat.reduceLT, Nat.reduceEqDiff, LT.lo, Leaf.lo]
    rw [Draw_ok]
    rcases drawOf_cases (a, v) w with ⟨e1, e2, e3⟩ | ⟨hp, hw0, hw1, hd⟩
    · generalize drawOf (a, v) w = d at *
      obtain ⟨d1, d2, d3⟩ := d
      simp only at e1 e2 e3
      subst e2 e3
      simp -implicitDefEqProofs only [evs, reduceIte, rdRes, rdTT, rdTy, rdLT, Res.un, TT.un, Ty.un, LT.un, Leaf.un, Leaf.plain, LT.plain, evh, List.replicate, splice, LT.pack, Leaf.pack, Nat.reduceAdd, Nat.reduceSub, Nat.reduceLeDiff, Nat.reduceLT, Nat.reduceEqDiff, LT.lo, Leaf.lo]
      rw [decide_eq_false e1]
      simp -implicitDefEqProofs only [evs, reduceIte, rdRes, rdTT, rdTy, rdLT, Res.un, TT.un, Ty.un, LT.un, Leaf.un, Leaf.plain, LT.plain, evh, List.replicate, splice, LT.pack, Leaf.pack, Nat.reduceAdd, Nat.reduceSub, Nat.reduceLeDiff, Nat.reduceLT, Nat.reduceEqDiff, LT.lo, Leaf.lo, eq_self, decide_true]
    · rw [hd]
      simp only at hw1
      have hp' := isPlain_iff.1 hp
      simp only at hp'
      have hsh := share_bounds hp hw0 hw1
      simp only at hsh
      simp -implicitDefEqProofs only [evs, reduceIte, rdRes, rdTT, rdTy, rdLT, Res.un, TT.un, Ty.un, LT.un, Leaf.un, Leaf.plain, LT.plain, evh, List.replicate, splice, LT.pack, Leaf.pack, Nat.reduceAdd, Nat.reduceSub, Nat.reduceLeDiff, Nat.reduceLT, Nat.reduceEqDiff, LT.lo, Leaf.lo, eq_self, decide_true]
      rw [decide_eq_false (show ¬ a * w / v < 0 by omega)]
      simp -implicitDefEqProofs only [evs, reduceIte, rdRes, rdTT, rdTy, rdLT, Res.un, TT.un, Ty.un, LT.un, Leaf.un, Leaf.plain, LT.plain, evh, List.replicate, splice, LT.pack, Leaf.pack, Nat.reduceAdd, Nat.reduceSub, Nat.reduceLeDiff, Nat.reduceLT, Nat.reduceEqDiff, LT.lo, Leaf.lo]
      rw [decide_eq_false (show ¬ a - a * w / v < 0 by omega)]
      simp -implicitDefEqProofs only [evs, reduceIte, rdRes, rdTT, rdTy, rdLT, Res.un, TT.un, Ty.un, LT.un, Leaf.un, Leaf.plain, LT.plain, evh, List.replicate, splice, LT.pack, Leaf.pack, Nat.reduceAdd, Nat.reduceSub, Nat.reduceLeDiff, Nat.reduceLT, Nat.reduceEqDiff, LT.lo, Leaf.lo]
      rw [i64_in (a * w / v + (a - a * w / v)) (by omega), decide_eq_true (show a * w / v + (a - a * w / v) = a by omega)]
      simp -implicitDefEqProofs only [evs, reduceIte, rdRes, rdTT, rdTy, rdLT, Res.un, TT.un, Ty.un, LT.un, Leaf.un, Leaf.plain, LT.plain, evh, List.replicate, splice, LT.pack, Leaf.pack, Nat.reduceAdd, Nat.reduceSub, Nat.reduceLeDiff, Nat.reduceLT, Nat.reduceEqDiff, LT.lo, Leaf.lo]
      rw [i64_in (w + (v - w)) (by omega), decide_eq_true (show w + (v - w) = v by omega)]
      simp -implicitDefEqProofs only [evs, reduceIte, rdRes, rdTT, rdTy, rdLT, Res.un, TT.un, Ty.un, LT.un, Leaf.un, Leaf.plain, LT.plain, evh, List.replicate, splice, LT.pack, Leaf.pack, Nat.reduceAdd, Nat.reduceSub, Nat.reduceLeDiff, Nat.reduceLT, Nat.reduceEqDiff, LT.lo, Leaf.lo]
      obtain ⟨r, er, _⟩ := Strength_ok xs a v
      obtain ⟨rd, erd, _⟩ := Strength_ok xs (a * w / v) w
      obtain ⟨rr, err, _⟩ := Strength_ok xs (a - a * w / v) (v - w)
      rw [er]
      simp -implicitDefEqProofs only [evs, reduceIte, rdRes, rdTT, rdTy, rdLT, Res.un, TT.un, Ty.un, LT.un, Leaf.un, Leaf.plain, LT.plain, evh, List.replicate, splice, LT.pack, Leaf.pack, Nat.reduceAdd, Nat.reduceSub, Nat.reduceLeDiff, Nat.reduceLT, Nat.reduceEqDiff, LT.lo, Leaf.lo]
      by_cases hz : r.2 = 0
      · obtain ⟨f1, f2, f3⟩ := draws_strength hp hw0 hw1 er hz erd err
        rw [decide_eq_true hz]
        simp -implicitDefEqProofs only [evs, reduceIte, rdRes, rdTT, rdTy, rdLT, Res.un, TT.un, Ty.un, LT.un, Leaf.un, Leaf.plain, LT.plain, evh, List.replicate, splice, LT.pack, Leaf.pack, Nat.reduceAdd, Nat.reduceSub, Nat.reduceLeDiff, Nat.reduceLT, Nat.reduceEqDiff, LT.lo, Leaf.lo]
        rw [erd]
        simp -implicitDefEqProofs only [evs, reduceIte, rdRes, rdTT, rdTy, rdLT, Res.un, TT.un, Ty.un, LT.un, Leaf.un, Leaf.plain, LT.plain, evh, List.replicate, splice, LT.pack, Leaf.pack, Nat.reduceAdd, Nat.reduceSub, Nat.reduceLeDiff, Nat.reduceLT, Nat.reduceEqDiff, LT.lo, Leaf.lo]
        rw [decide_eq_true f1, decide_eq_false (show ¬ r.1 < rd.1 by omega)]
        simp -implicitDefEqProofs only [evs, reduceIte, rdRes, rdTT, rdTy, rdLT, Res.un, TT.un, Ty.un, LT.un, Leaf.un, Leaf.plain, LT.plain, evh, List.replicate, splice, LT.pack, Leaf.pack, Nat.reduceAdd, Nat.reduceSub, Nat.reduceLeDiff, Nat.reduceLT, Nat.reduceEqDiff, LT.lo, Leaf.lo]
        rw [err]
        simp -implicitDefEqProofs only [evs, reduceIte, rdRes, rdTT, rdTy, rdLT, Res.un, TT.un, Ty.un, LT.un, Leaf.un, Leaf.plain, LT.plain, evh, List.replicate, splice, LT.pack, Leaf.pack, Nat.reduceAdd, Nat.reduceSub, Nat.reduceLeDiff, Nat.reduceLT, Nat.reduceEqDiff, LT.lo, Leaf.lo]
        by_cases g1 : rr.2 = 0
        · rw [decide_eq_true g1]
          simp -implicitDefEqProofs only [evs, reduceIte, rdRes, rdTT, rdTy, rdLT, Res.un, TT.un, Ty.un, LT.un, Leaf.un, Leaf.plain, LT.plain, evh, List.replicate, splice, LT.pack, Leaf.pack, Nat.reduceAdd, Nat.reduceSub, Nat.reduceLeDiff, Nat.reduceLT, Nat.reduceEqDiff, LT.lo, Leaf.lo]
          by_cases g2 : v - w = 0
          · rw [decide_eq_true g2]
            simp -implicitDefEqProofs only [evs, reduceIte, rdRes, rdTT, rdTy, rdLT, Res.un, TT.un, Ty.un, LT.un, Leaf.un, Leaf.plain, LT.plain, evh, List.replicate, splice, LT.pack, Leaf.pack, Nat.reduceAdd, Nat.reduceSub, Nat.reduceLeDiff, Nat.reduceLT, Nat.reduceEqDiff, LT.lo, Leaf.lo]
          · rw [decide_eq_false g2, decide_eq_true (f3 g1 g2)]
            simp -implicitDefEqProofs only [evs, reduceIte, rdRes, rdTT, rdTy, rdLT, Res.un, TT.un, Ty.un, LT.un, Leaf.un, Leaf.plain, LT.plain, evh, List.replicate, splice, LT.pack, Leaf.pack, Nat.reduceAdd, Nat.reduceSub, Nat.reduceLeDiff, Nat.reduceLT, Nat.reduceEqDiff, LT.lo, Leaf.lo]
        · rw [decide_eq_false g1]
          simp -implicitDefEqProofs only [evs, reduceIte, rdRes, rdTT, rdTy, rdLT, Res.un, TT.un, Ty.un, LT.un, Leaf.un, Leaf.plain, LT.plain, evh, List.replicate, splice, LT.pack, Leaf.pack, Nat.reduceAdd, Nat.reduceSub, Nat.reduceLeDiff, Nat.reduceLT, Nat.reduceEqDiff, LT.lo, Leaf.lo]
      · rw [decide_eq_false hz]
        simp -implicitDefEqProofs only [evs, reduceIte, rdRes, rdTT, rdTy, rdLT, Res.un, TT.un, Ty.un, LT.un, Leaf.un, Leaf.plain, LT.plain, evh, List.replicate, splice, LT.pack, Leaf.pack, Nat.reduceAdd, Nat.reduceSub, Nat.reduceLeDiff, Nat.reduceLT, Nat.reduceEqDiff, LT.lo, Leaf.lo]
end Go.Proofs.Ytaepkinihaipkaa
/- The law MixOrder in plain numbers. Conditions: the last number is not negative. -/
namespace Go.Proofs.Ytaepkinihaipkaa
open Go Go.Proofs.Ytaepkinihaipkaa.Ev
set_option linter.unusedVariables false
set_option linter.unusedSimpArgs false
set_option maxRecDepth 100000
set_option maxHeartbeats 4000000
theorem sumL_append : ∀ (a b : List (Int × Int)), sumL (a ++ b) = ((sumL a).1 + (sumL b).1, (sumL a).2 + (sumL b).2)
  | [], b => by simp [sumL]
  | x :: a, b => by
    rw [List.cons_append, sumL_cons, sumL_cons, sumL_append a b]
    simp only [Int.add_assoc]
theorem sumL_reverse : ∀ (a : List (Int × Int)), sumL a.reverse = sumL a
  | [] => rfl
  | x :: a => by
    rw [List.reverse_cons, sumL_append, sumL_reverse a, sumL_cons, sumL_cons]
    simp only [sumL, List.map_nil, List.sum_nil, Int.add_zero]
    rw [Int.add_comm, Int.add_comm (List.sum _) x.2]
theorem any_reverse (p : Int × Int → Bool) (ls : List (Int × Int)) : ls.reverse.any p = ls.any p := by
  rw [List.any_reverse]
theorem sumOf_reverse (ls : List (Int × Int)) : sumOf ls.reverse = sumOf ls := by
  unfold sumOf
  rw [List.length_reverse, any_reverse, sumL_reverse]
theorem mixture_reverse (xs ls : List (Int × Int)) : mixtureOf xs ls.reverse = mixtureOf xs ls := by
  unfold mixtureOf
  rw [List.length_reverse, any_reverse, sumOf_reverse]
theorem volSum_reverse (xs : List (Int × Int)) (ls : List (Int × Int)) : volSum xs ls.reverse = volSum xs ls := by
  unfold volSum
  rw [List.map_reverse]
  generalize ls.map (fun x => (volOf xs x).1) = l
  induction l with
  | nil => rfl
  | cons a l ih => rw [List.reverse_cons, List.sum_append, ih, List.sum_cons, List.sum_cons, List.sum_nil]; omega
theorem contraction_reverse (xs ls : List (Int × Int)) : contractionOf xs ls.reverse = contractionOf xs ls := by
  unfold contractionOf
  rw [mixture_reverse, volSum_reverse]
theorem sumL_one (x : Int × Int) : sumL [x] = x := by
  rw [sumL_cons]
  simp [sumL]
theorem contraction_one {xs : List (Int × Int)} {x : Int × Int} : (contractionOf xs [x]).2 = 0 → (contractionOf xs [x]).1 = 0 := by
  unfold contractionOf
  by_cases h : (mixtureOf xs [x]).2 = 0
  · obtain ⟨_, _, _, _, _, hm, _⟩ := mixture_zero h
    rw [if_pos h, hm, sumL_one]
    intro _
    simp [volSum]
    omega
  · rw [if_neg h]
    intro _
    rfl
theorem sumOf_facts {ls : List (Int × Int)} (h : (sumOf ls).2 = 0) : ls.length ≤ 8 ∧ (∀ x ∈ ls, isPlain x = true) ∧ isPlain (sumL ls) = true ∧ sumOf ls = (sumL ls, 0) := by
  unfold sumOf at h ⊢
  by_cases h8 : 8 < ls.length
  · rw [if_pos h8] at h; simp at h
  · rw [if_neg h8] at h ⊢
    by_cases hp : ls.any (fun x => !isPlain x) = true
    · rw [if_pos hp] at h; simp at h
    · rw [if_neg hp] at h ⊢
      rw [Bool.not_eq_true] at hp
      by_cases hs : isPlain (sumL ls) = true
      · rw [if_pos hs]
        exact ⟨by omega, fun x hx => by have := List.any_eq_false.1 hp x hx; simpa using this, hs, rfl⟩
      · rw [if_neg hs] at h; simp at h
theorem sumOf_plain {ls : List (Int × Int)} (h8 : ls.length ≤ 8) (hp : ∀ x ∈ ls, isPlain x = true) (hs : isPlain (sumL ls) = true) : sumOf ls = (sumL ls, 0) := by
  unfold sumOf
  rw [if_neg (by omega), if_neg (by
    rw [List.any_eq_true]
    rintro ⟨x, hx, h⟩
    rw [hp x hx] at h
    cases h), if_pos hs]
theorem sumOf_bad {ls : List (Int × Int)} (h : (sumOf ls).2 ≠ 0) : (sumOf ls).1 = (0, 0) := by
  unfold sumOf at h ⊢
  by_cases h8 : 8 < ls.length
  · rw [if_pos h8]
  · rw [if_neg h8] at h ⊢
    by_cases hp : ls.any (fun x => !isPlain x) = true
    · rw [if_pos hp]
    · rw [if_neg hp] at h ⊢
      by_cases hs : isPlain (sumL ls) = true
      · rw [if_pos hs] at h; exact absurd rfl h
      · rw [if_neg hs]
/-- Sums of plain liquids: not negative; and no alcohol without mass. -/
theorem sumL_pos : ∀ (ls : List (Int × Int)), (∀ x ∈ ls, isPlain x = true) → 0 ≤ (sumL ls).1 ∧ 0 ≤ (sumL ls).2 ∧ (0 < (sumL ls).2 ∨ (sumL ls).1 = 0)
  | [], _ => by simp [sumL]
  | x :: ls, h => by
    have h1 := isPlain_iff.1 (h x (by simp))
    have h2 := sumL_pos ls fun y hy => h y (by simp [hy])
    rw [sumL_cons]
    simp only
    omega
/-- Both ends of a plain sum are plain. -/
theorem split_plain {ls : List (Int × Int)} (hp : ∀ x ∈ ls, isPlain x = true) (hs : isPlain (sumL ls) = true) (c : Nat) : isPlain (sumL (ls.take c)) = true ∧ isPlain (sumL (ls.drop c)) = true ∧
    (sumL (ls.take c)).1 + (sumL (ls.drop c)).1 = (sumL ls).1 ∧ (sumL (ls.take c)).2 + (sumL (ls.drop c)).2 = (sumL ls).2 := by
  have h1 := sumL_pos (ls.take c) fun x hx => hp x (List.mem_of_mem_take hx)
  have h2 := sumL_pos (ls.drop c) fun x hx => hp x (List.mem_of_mem_drop hx)
  have h3 := sumL_append (ls.take c) (ls.drop c)
  rw [List.take_append_drop] at h3
  have hs' := isPlain_iff.1 hs
  rw [h3] at hs' ⊢
  simp only at hs' ⊢
  exact ⟨isPlain_iff.2 (by omega), isPlain_iff.2 (by omega), trivial, trivial⟩
theorem flat_take {f : Bool} {ls : List Leaf} (xs : List (LT ls)) (i : Nat) (hi : i ≤ xs.length) : (xs.flatMap fun x => LT.lo f ls x).take (i * ls.length) = (xs.take i).flatMap fun x => LT.lo f ls x := by
  have := congrArg (fun l => l.flatMap fun x => LT.lo f ls x) (List.take_append_drop i xs)
  simp only [List.flatMap_append] at this
  rw [← this, List.take_left']
  rw [flat_length, List.length_take, Nat.min_eq_left hi]
/-- A part of a row. -/
theorem rdRow_sub {lp f : Bool} {h : H} {ls : List Leaf} {xs : List (LT ls)} {i n w c : Nat} {t : Bool} (hw : ls.length = w) (hp : Leaf.plain (.row ls) = true) (hb : (lp || f) = true) (hin : i + n ≤ xs.length) :
    rdRow lp h ls ⟨(rowSV f ls xs).a.add (i * w), n, c, t⟩ = some ((xs.drop i).take n) := by
  subst hw
  have key := rdLeaf_lo (lp := lp) (f := f) (h := h) hb (.row ls) ((xs.drop i).take n) hp
  have hlen : ((xs.drop i).take n).length = n := by rw [List.length_take, List.length_drop]; omega
  by_cases hn : n = 0
  · subst hn
    rw [List.take_zero]
    exact rdRow_nil
  · rw [← key]
    unfold rdRow
    simp only [Leaf.lo, rdLeaf, hlen, if_neg hn]
    have h1 : h.rds ((rowSV f ls xs).a.add (i * ls.length)) (n * ls.length) = h.rds (.lp f (((xs.drop i).take n).flatMap fun x => LT.lo f ls x) 0) (n * ls.length) := by
      have h2 : ∀ (cs : List V), h.from (.lp f cs 0) = some cs := fun cs => by simp only [H.from, List.drop_zero]
      unfold H.rds
      rw [from_row, h2]
      simp only [Option.bind_some, flat_drop]
      rw [flat_take (xs.drop i) n (by rw [List.length_drop]; omega)]
      have l1 := flat_length (f := f) (xs.drop i)
      have l2 := flat_length (f := f) ((xs.drop i).take n)
      rw [hlen] at l2
      rw [l1, l2, List.take_of_length_le (l := ((xs.drop i).take n).flatMap fun x => LT.lo f ls x) (by rw [l2]; exact Nat.le_refl _)]
      have hle : n * ls.length ≤ (xs.drop i).length * ls.length := Nat.mul_le_mul_right _ (by rw [List.length_drop]; omega)
      by_cases h0 : n * ls.length ≠ 0
      · rw [if_pos ⟨hle, h0⟩, if_pos ⟨Nat.le_refl _, h0⟩]
      · rw [if_neg (fun h => h0 h.2), if_neg (fun h => h0 h.2)]
    rw [h1]
    rfl
theorem rdRow_pair {h : H} {t : Bool} {a b c d : Int} : rdRow true h j2 ⟨.lp true [.int .i64 a, .int .i64 b, .int .i64 c, .int .i64 d] 0, 2, 2, t⟩ = some [(a, b), (c, d)] := rdRow_res (xs := ([(a, b), (c, d)] : List (LT j2))) rfl
theorem rdRow_one {h : H} {t : Bool} {a b : Int} : rdRow true h j2 ⟨.lp true [.int .i64 a, .int .i64 b] 0, 1, 1, t⟩ = some [(a, b)] := rdRow_res (xs := ([(a, b)] : List (LT j2))) rfl
theorem MixOrder_plain (xs ls : List (Int × Int)) (cut : Int) (hc : 0 ≤ cut ∧ cut < 256) : spilelaw21_MixOrderP xs ls cut = some true := by
  obtain ⟨b, hb, hb2⟩ := Few16_ok xs
  unfold spilelaw21_MixOrderP spilelaw21_MixOrder
  simp -implicitDefEqProofs only [awake21, evs, reduceIte, rdRes, rdTT, rdTy, rdLT, Res.un, TT.un, Ty.un, LT.un, Leaf.un, Leaf.plain, LT.plain, hb]
  cases b with
  | false => simp -implicitDefEqProofs only [evs, reduceIte, rdRes, rdTT, rdTy, rdLT, Res.un, TT.un, Ty.un, LT.un, Leaf.un, Leaf.plain, LT.plain]
  | true =>
    simp -implicitDefEqProofs only [evs, reduceIte, rdRes, rdTT, rdTy, rdLT, Res.un, TT.un, Ty.un, LT.un, Leaf.un, Leaf.plain, LT.plain]
    by_cases h8 : (8 : Int) < (ls.length : Int)
    · rw [decide_eq_true h8]
      simp -implicitDefEqProofs only [evs, reduceIte, rdRes, rdTT, rdTy, rdLT, Res.un, TT.un, Ty.un, LT.un, Leaf.un, Leaf.plain, LT.plain]
    · rw [decide_eq_false h8]
      simp -implicitDefEqProofs only [evs, reduceIte, rdRes, rdTT, rdTy, rdLT, Res.un, TT.un, Ty.un, LT.un, Leaf.un, Leaf.plain, LT.plain]
      rw [Sum_ok ls (by omega)]
      have n0 := fun y => new_c2 (sl := []) (x := y)
      have r0 : ∀ y, rdT (.agg j2) (hL [c2 y]) (.hp 0 2 0) = some y := fun y => rds_c2 rfl
      by_cases hz : (sumOf ls).2 = 0
      · obtain ⟨_, hpl, hps, hsum⟩ := sumOf_facts hz
        rw [hsum]
        simp -implicitDefEqProofs only [evs, reduceIte, rdRes, rdTT, rdTy, rdLT, Res.un, TT.un, Ty.un, LT.un, Leaf.un, Leaf.plain, LT.plain, hL_empty, hL_new, hL_next, List.nil_append, List.length_nil]
        have n00 := n0 (sumL ls)
        simp only [List.nil_append, List.length_nil] at n00
        rw [n00]
        simp -implicitDefEqProofs only [evs, reduceIte, rdRes, rdTT, rdTy, rdLT, Res.un, TT.un, Ty.un, LT.un, Leaf.un, Leaf.plain, LT.plain, eq_self, decide_true]
        obtain ⟨r, h13, sl, e1, e2, e3⟩ := turned_ok (f := false) (s := sumL ls) (ls := ls) (by omega)
        rw [e1]
        simp -implicitDefEqProofs only [evs, reduceIte, rdRes, rdTT, rdTy, rdLT, Res.un, TT.un, Ty.un, LT.un, Leaf.un, Leaf.plain, LT.plain]
        rw [e2]
        simp -implicitDefEqProofs only [evs, reduceIte, rdRes, rdTT, rdTy, rdLT, Res.un, TT.un, Ty.un, LT.un, Leaf.un, Leaf.plain, LT.plain]
        have e30 := e3 []
        rw [List.append_nil] at e30
        rw [e30]
        simp -implicitDefEqProofs only [evs, reduceIte, rdRes, rdTT, rdTy, rdLT, Res.un, TT.un, Ty.un, LT.un, Leaf.un, Leaf.plain, LT.plain]
        rw [Sum_ok ls.reverse (by rw [List.length_reverse]; omega), sumOf_reverse, hsum]
        simp -implicitDefEqProofs only [evs, reduceIte, rdRes, rdTT, rdTy, rdLT, Res.un, TT.un, Ty.un, LT.un, Leaf.un, Leaf.plain, LT.plain, hL_new, hL_next]
        have n1 := new_c2 (sl := c2 (sumL ls) :: sl) (x := sumL ls)
        rw [n1]
        simp -implicitDefEqProofs only [evs, reduceIte, rdRes, rdTT, rdTy, rdLT, Res.un, TT.un, Ty.un, LT.un, Leaf.un, Leaf.plain, LT.plain]
        obtain ⟨c, rfl⟩ : ∃ c : Nat, cut = (c : Int) := ⟨cut.toNat, by omega⟩
        have hm : Int.tmod (IntKind.wrap .i64 (c : Int)) (IntKind.wrap .i64 ((ls.length : Int) + 1)) = ((c % (ls.length + 1) : Nat) : Int) := by
          rw [i64_in _ (by omega), i64_in _ (by omega), show (ls.length : Int) + 1 = ((ls.length + 1 : Nat) : Int) by omega, ← Int.ofNat_tmod]
        have hcl : c % (ls.length + 1) ≤ ls.length := by have := Nat.mod_lt c (show 0 < ls.length + 1 by omega); omega
        rw [hm]
        generalize c % (ls.length + 1) = k at *
        rw [guardO_pos (by rw [i64_in _ (by omega)]; omega), guardO_pos ⟨Int.le_refl _, by omega, by omega⟩]
        have s1 := fun h c => rdRow_sub (lp := true) (f := false) (h := h) (ls := j2) (xs := ls) (i := 0) (n := k) (w := 2) (c := c) (t := true) rfl rfl rfl (by omega)
        have s2 := fun h c => rdRow_sub (lp := true) (f := false) (h := h) (ls := j2) (xs := ls) (i := k) (n := ls.length - k) (w := 2) (c := c) (t := true) rfl rfl rfl (by omega)
        rw [List.drop_zero] at s1
        rw [List.take_of_length_le (by rw [List.length_drop]; exact Nat.le_refl _)] at s2
        obtain ⟨p1, p2, p3, p4⟩ := split_plain hpl hps k
        have q1 := sumOf_plain (ls := ls.take k) (by rw [List.length_take]; omega) (fun x hx => hpl x (List.mem_of_mem_take hx)) p1
        have q2 := sumOf_plain (ls := ls.drop k) (by rw [List.length_drop]; omega) (fun x hx => hpl x (List.mem_of_mem_drop hx)) p2
        have hlen1 : (ls.take k).length < 2 ^ 63 := by rw [List.length_take]; omega
        have hlen2 : (ls.drop k).length < 2 ^ 63 := by rw [List.length_drop]; omega
        have t1 := Sum_ok (ls.take k) hlen1
        have t2 := Sum_ok (ls.drop k) hlen2
        rw [q1] at t1
        rw [q2] at t2
        generalize sumL (ls.take k) = C at *
        generalize sumL (ls.drop k) = D at *
        obtain ⟨C1, C2⟩ := C
        obtain ⟨D1, D2⟩ := D
        simp only at p3 p4
        have hx := sumOf_plain (ls := [(C1, C2), (D1, D2)]) (by simp) (fun x hx => by
          simp only [List.mem_cons, List.not_mem_nil, or_false] at hx
          rcases hx with rfl | rfl
          · exact p1
          · exact p2)
        have hsx : sumL [(C1, C2), (D1, D2)] = sumL ls := by
          rw [sumL_cons, sumL_one]
          simp only [p3, p4]
        rw [hsx] at hx
        have t3 := Sum_ok [(C1, C2), (D1, D2)] (by simp)
        rw [hx hps] at t3
        have t4 := Contraction_ok xs [sumL ls] (by simp)
        have t5 := Contraction_ok xs ls (by omega)
        have t6 := Contraction_ok xs ls.reverse (by rw [List.length_reverse]; omega)
        rw [contraction_reverse] at t6
        have hone := contraction_one (xs := xs) (x := sumL ls)
        generalize contractionOf xs [sumL ls] = o at *
        generalize contractionOf xs ls = o2 at *
        obtain ⟨o0, o1⟩ := o
        obtain ⟨o20, o21⟩ := o2
        generalize sumL ls = s at *
        obtain ⟨s0, s3⟩ := s
        generalize hB : (c2 (s0, s3) :: sl : List Slot) = B at *
        have eB : B[0]? = some (c2 (s0, s3)) := by rw [← hB]; rfl
        have posB : 0 < B.length := by rw [← hB]; simp
        have m1 := new_c2 (sl := B ++ [c2 (s0, s3)]) (x := (C1, C2))
        have m2 := new_c2 (sl := B ++ [c2 (s0, s3)] ++ [c2 (C1, C2)]) (x := (D1, D2))
        have m3 := new_c2 (sl := B ++ [c2 (s0, s3)] ++ [c2 (C1, C2)] ++ [c2 (D1, D2)]) (x := (s0, s3))
        have u1 := rds_c2 (sl := B ++ [c2 (s0, s3)] ++ [c2 (C1, C2)] ++ [c2 (D1, D2)]) (id := (B ++ [c2 (s0, s3)]).length) (x := (C1, C2)) (by simp)
        have u2 := rds_c2 (sl := B ++ [c2 (s0, s3)] ++ [c2 (C1, C2)] ++ [c2 (D1, D2)]) (id := (B ++ [c2 (s0, s3)] ++ [c2 (C1, C2)]).length) (x := (D1, D2)) (by simp)
        have u3 := rds_c2 (sl := B ++ [c2 (s0, s3)] ++ [c2 (C1, C2)] ++ [c2 (D1, D2)] ++ [c2 (s0, s3)]) (id := 0) (x := (s0, s3)) (by
          rw [List.append_assoc, List.append_assoc, List.append_assoc, List.getElem?_append_left posB, eB])
        have u4 := rds_c2 (sl := B ++ [c2 (s0, s3)] ++ [c2 (C1, C2)] ++ [c2 (D1, D2)] ++ [c2 (s0, s3)]) (id := B.length) (x := (s0, s3)) (by simp)
        have u5 := rds_c2 (sl := B ++ [c2 (s0, s3)] ++ [c2 (C1, C2)] ++ [c2 (D1, D2)] ++ [c2 (s0, s3)]) (id := (B ++ [c2 (s0, s3)] ++ [c2 (C1, C2)] ++ [c2 (D1, D2)]).length) (x := (s0, s3)) (by simp)
        have u6 := e3 [c2 (s0, s3), c2 (C1, C2), c2 (D1, D2), c2 (s0, s3)]
        rw [show c2 (s0, s3) :: (sl ++ [c2 (s0, s3), c2 (C1, C2), c2 (D1, D2), c2 (s0, s3)]) = B ++ [c2 (s0, s3)] ++ [c2 (C1, C2)] ++ [c2 (D1, D2)] ++ [c2 (s0, s3)] by rw [← hB]; simp] at u6
        have z0 : Int.toNat 0 = 0 := rfl
        have hgk : 0 ≤ (k : Int) ∧ (k : Int) ≤ (ls.length : Int) ∧ (ls.length : Int) ≤ (ls.length : Int) := by omega
        simp -implicitDefEqProofs only [Int.toNat_natCast, z0, Nat.sub_zero]
        simp only [Nat.zero_mul] at s1
        rw [s1]
        simp -implicitDefEqProofs only [evs, reduceIte, rdRes, rdTT, rdTy, rdLT, Res.un, TT.un, Ty.un, LT.un, Leaf.un, Leaf.plain, LT.plain]
        rw [t1]
        simp -implicitDefEqProofs only [evs, reduceIte, rdRes, rdTT, rdTy, rdLT, Res.un, TT.un, Ty.un, LT.un, Leaf.un, Leaf.plain, LT.plain, hL_new, hL_next]
        rw [m1]
        simp -implicitDefEqProofs only [evs, reduceIte, rdRes, rdTT, rdTy, rdLT, Res.un, TT.un, Ty.un, LT.un, Leaf.un, Leaf.plain, LT.plain]
        rw [guardO_pos hgk, s2]
        simp -implicitDefEqProofs only [evs, reduceIte, rdRes, rdTT, rdTy, rdLT, Res.un, TT.un, Ty.un, LT.un, Leaf.un, Leaf.plain, LT.plain]
        rw [t2]
        simp -implicitDefEqProofs only [evs, reduceIte, rdRes, rdTT, rdTy, rdLT, Res.un, TT.un, Ty.un, LT.un, Leaf.un, Leaf.plain, LT.plain, hL_new, hL_next]
        rw [m2]
        simp -implicitDefEqProofs only [evs, reduceIte, rdRes, rdTT, rdTy, rdLT, Res.un, TT.un, Ty.un, LT.un, Leaf.un, Leaf.plain, LT.plain]
        rw [u1]
        simp -implicitDefEqProofs only [evs, reduceIte, rdRes, rdTT, rdTy, rdLT, Res.un, TT.un, Ty.un, LT.un, Leaf.un, Leaf.plain, LT.plain]
        rw [u2]
        simp -implicitDefEqProofs only [evs, reduceIte, rdRes, rdTT, rdTy, rdLT, Res.un, TT.un, Ty.un, LT.un, Leaf.un, Leaf.plain, LT.plain]
        rw [rdRow_pair]
        simp -implicitDefEqProofs only [evs, reduceIte, rdRes, rdTT, rdTy, rdLT, Res.un, TT.un, Ty.un, LT.un, Leaf.un, Leaf.plain, LT.plain]
        rw [t3]
        simp -implicitDefEqProofs only [evs, reduceIte, rdRes, rdTT, rdTy, rdLT, Res.un, TT.un, Ty.un, LT.un, Leaf.un, Leaf.plain, LT.plain, hL_new, hL_next]
        rw [m3]
        simp -implicitDefEqProofs only [evs, reduceIte, rdRes, rdTT, rdTy, rdLT, Res.un, TT.un, Ty.un, LT.un, Leaf.un, Leaf.plain, LT.plain, eq_self, decide_true]
        rw [u3]
        simp -implicitDefEqProofs only [evs, reduceIte, rdRes, rdTT, rdTy, rdLT, Res.un, TT.un, Ty.un, LT.un, Leaf.un, Leaf.plain, LT.plain]
        rw [u4]
        simp -implicitDefEqProofs only [evs, reduceIte, rdRes, rdTT, rdTy, rdLT, Res.un, TT.un, Ty.un, LT.un, Leaf.un, Leaf.plain, LT.plain, eq_self, decide_true]
        rw [u5]
        simp -implicitDefEqProofs only [evs, reduceIte, rdRes, rdTT, rdTy, rdLT, Res.un, TT.un, Ty.un, LT.un, Leaf.un, Leaf.plain, LT.plain, eq_self, decide_true]
        rw [u3]
        simp -implicitDefEqProofs only [evs, reduceIte, rdRes, rdTT, rdTy, rdLT, Res.un, TT.un, Ty.un, LT.un, Leaf.un, Leaf.plain, LT.plain]
        rw [rdRow_one]
        simp -implicitDefEqProofs only [evs, reduceIte, rdRes, rdTT, rdTy, rdLT, Res.un, TT.un, Ty.un, LT.un, Leaf.un, Leaf.plain, LT.plain]
        rw [t4]
        simp -implicitDefEqProofs only [evs, reduceIte, rdRes, rdTT, rdTy, rdLT, Res.un, TT.un, Ty.un, LT.un, Leaf.un, Leaf.plain, LT.plain]
        have hfin : (bif decide (o1 = 0) then some (!decide (o0 = 0), hL (B ++ [c2 (s0, s3)] ++ [c2 (C1, C2)] ++ [c2 (D1, D2)] ++ [c2 (s0, s3)])) else some (false, hL (B ++ [c2 (s0, s3)] ++ [c2 (C1, C2)] ++ [c2 (D1, D2)] ++ [c2 (s0, s3)])) : Option (Bool × H)) = some (false, hL (B ++ [c2 (s0, s3)] ++ [c2 (C1, C2)] ++ [c2 (D1, D2)] ++ [c2 (s0, s3)])) := by
          by_cases h : o1 = 0
          · rw [decide_eq_true h, cond_true, decide_eq_true (hone h)]; rfl
          · rw [decide_eq_false h, cond_false]
        rw [hfin]
        simp -implicitDefEqProofs only [evs, reduceIte, rdRes, rdTT, rdTy, rdLT, Res.un, TT.un, Ty.un, LT.un, Leaf.un, Leaf.plain, LT.plain, Bool.false_eq_true]
        rw [t5]
        simp -implicitDefEqProofs only [evs, reduceIte, rdRes, rdTT, rdTy, rdLT, Res.un, TT.un, Ty.un, LT.un, Leaf.un, Leaf.plain, LT.plain]
        rw [u6]
        simp -implicitDefEqProofs only [evs, reduceIte, rdRes, rdTT, rdTy, rdLT, Res.un, TT.un, Ty.un, LT.un, Leaf.un, Leaf.plain, LT.plain]
        rw [t6]
        simp -implicitDefEqProofs only [evs, reduceIte, rdRes, rdTT, rdTy, rdLT, Res.un, TT.un, Ty.un, LT.un, Leaf.un, Leaf.plain, LT.plain, eq_self, decide_true]
      · have hbad := sumOf_bad hz
        generalize sumOf ls = d at *
        obtain ⟨d1, d2⟩ := d
        simp only at hz hbad
        subst hbad
        simp -implicitDefEqProofs only [evs, reduceIte, rdRes, rdTT, rdTy, rdLT, Res.un, TT.un, Ty.un, LT.un, Leaf.un, Leaf.plain, LT.plain, hL_empty, hL_new, hL_next, List.nil_append, List.length_nil]
        have n00 := n0 (0, 0)
        have r00 := r0 (0, 0)
        simp only [List.nil_append, List.length_nil] at n00 r00
        rw [n00, decide_eq_false hz]
        simp -implicitDefEqProofs only [evs, reduceIte, rdRes, rdTT, rdTy, rdLT, Res.un, TT.un, Ty.un, LT.un, Leaf.un, Leaf.plain, LT.plain]
        rw [r00]
        simp -implicitDefEqProofs only [evs, reduceIte, rdRes, rdTT, rdTy, rdLT, Res.un, TT.un, Ty.un, LT.un, Leaf.un, Leaf.plain, LT.plain, eq_self, decide_true]
theorem MixOrder_ok (xs ls : List (Int × Int)) (cut : Int) (h : TT.ok [.leaf (.row [.int .i64, .int .i64]), .leaf (.row [.int .i64, .int .i64]), .leaf (.int .u8)] (xs, ls, cut)) : spilelaw21_MixOrderP xs ls cut = some true := by
  have hk : (Lit.int .u8 cut).wf = true := h.2.2
  simp only [Lit.wf, Bool.and_eq_true, decide_eq_true_eq] at hk
  have k1 : IntKind.min .u8 = 0 := rfl
  have k2 : IntKind.max .u8 = 255 := rfl
  rw [k1, k2] at hk
  exact MixOrder_plain xs ls cut (by omega)
end Go.Proofs.Ytaepkinihaipkaa
