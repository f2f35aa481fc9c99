/- What the functions of this seat compute, and the evaluator: some texts in one. Conditions: those of each law. -/
import Derived.Test.YtjkjcnadgpndoaaGreatMgF3
namespace Go.Proofs.YtjkjcnadgpndoaaGreat
open Go Go.Proofs.YtjkjcnadgpndoaaGreat.Ev
set_option linter.unusedVariables false
set_option linter.unusedSimpArgs false
set_option maxRecDepth 100000
set_option maxHeartbeats 4000000
theorem call69 {T : Table} (hT : T.dy.fn 69 = arrival_Add_1.e) {f g : Fct} {b : Bool} {sl J : List Slot} (h0 : sl[0]? = some (cFt b f)) (hf : okF f = true) {R : Type} (k : V → H → Option R) :
    callV T.dy (.func 69 [.hp 0 6 0]) [argF true g] (hL (sl ++ J)) k = k (.bool (decide (cmpF f g = 0))) (hL (sl ++ (J ++ [cFt true g]))) := by
  have hl : 0 < sl.length := (List.getElem?_eq_some_iff.1 h0).1
  have r0 : rdT (.agg FS) (hL (sl ++ (J ++ [cFt true g]))) (.hp 0 6 0) = some (low b f) := (rds_cFt (by rw [List.getElem?_append_left hl, h0])).1
  have r1 : rdT (.agg FS) (hL (sl ++ (J ++ [cFt true g]))) (.hp (sl ++ J).length 6 0) = some (low true g) := (rds_cFt (by rw [← List.append_assoc]; simp)).1
  show (T.dy.fn 69).cps [argF true g, .hp 0 6 0] (hL (sl ++ J)) k = _
  rw [hT]
  show (arrival_Add_1 (low true g) (.hp 0 6 0) (hL (sl ++ J))).bind (fun p => k (.bool p.1) p.2) = _
  have : arrival_Add_1 (low true g) (.hp 0 6 0) (hL (sl ++ J)) = some (decide (cmpF f g = 0), hL (sl ++ (J ++ [cFt true g]))) := by
    obtain ⟨f0, f1, f2, f3, f4, f5⟩ := f
    obtain ⟨g0, g1, g2, g3, g4, g5⟩ := g
    unfold arrival_Add_1
    try simp -implicitDefEqProofs only [low, rowSV_len, rowSV_cap, rowSV_tail, hL_new, hL_next]
    rw [List.append_assoc]
    have r0' := r0
    simp only [low] at r0' r1
    have e : (Slot.own [.int .i64 g0, .int .i64 g1, .int .i64 g2, .int .i64 g3, .slice (rowSV true [.int .i64] g4).a g4.length g4.length true, .slice (rowSV true [.str] g5).a g5.length g5.length true] 6) = cFt true (g0, g1, g2, g3, g4, g5) := rfl
    rw [e, r0', r1]
    try simp -implicitDefEqProofs only [Option.bind_some, row_ints', row_texts']
    rw [Same_ok _ _ hf]
    rfl
  rw [this]
  rfl
theorem rd_mixed {sl : List Slot} {id N i : Nat} {cs : List V} {b : Bool} {x : Fct} (h : sl[id]? = some (.own cs 6)) (hN : cs.length = N * 6) (hi : i * 6 + 6 ≤ N * 6) (hx : (cs.drop (i * 6)).take 6 = LT.lo b FC x) : rdT (.agg FS) (hL sl) (V.add (.hp id (N * 6) 0) (i * 6)) = some (low b x) := by
  rw [add_hpQ, rds_hp (by simp), hL_m, h]
  simp only [Option.getD_some]
  rw [if_pos ⟨hN, by rw [hN]; show 6 ≤ _; omega⟩, show FS.length = 6 from rfl, hx]
  exact pack_low b x
theorem mixed_at {xs : List Fct} {f x : Fct} {b : Bool} {rest : List V} {i : Nat} (hi : (xs ++ [f])[i]? = some x) : ∃ b', ((cellsL FC xs ++ LT.lo b FC f ++ rest).drop (i * 6)).take 6 = LT.lo b' FC x := by
  have hc : (cellsL FC xs).length = xs.length * 6 := flat_length (ls := FC) xs
  have hlf : (LT.lo b FC f).length = 6 := rfl
  by_cases h : i < xs.length
  · rw [List.getElem?_append_left h] at hi
    obtain ⟨_, hx⟩ := List.getElem?_eq_some_iff.1 hi
    have hd : (cellsL FC xs).drop (i * 6) = cellsL FC (xs.drop i) := flat_drop (ls := FC) xs i
    refine ⟨true, ?_⟩
    rw [List.append_assoc, List.drop_append_of_le_length (by rw [hc]; omega), hd, List.drop_eq_getElem_cons h]
    show List.take 6 (List.flatMap _ (xs[i] :: _) ++ _) = _
    rw [List.flatMap_cons, List.append_assoc, List.take_left' (show (LT.lo true FC xs[i]).length = 6 from rfl), hx]
  · have hl := (List.getElem?_eq_some_iff.1 hi).1
    simp only [List.length_append, List.length_cons, List.length_nil] at hl
    have he : i = xs.length := by omega
    subst he
    rw [List.getElem?_append_right (Nat.le_refl _), Nat.sub_self] at hi
    simp only [List.getElem?_cons_zero, Option.some.injEq] at hi
    subst hi
    refine ⟨b, ?_⟩
    rw [List.append_assoc, List.drop_left' hc, List.take_left' hlf]
theorem append_any {lo : Nat} {sl : List Slot} {xs : List Fct} {s : SV} {f : Fct} {b : Bool} (H : Holds lo sl xs s) (hl : xs.length ≤ 2 ^ 20) :
    ∃ s' sl', appendS (hL sl) none 6 80 s (LT.lo b FC f) 1 = some (s', hL sl') ∧ s'.len = (xs ++ [f]).length ∧ ∀ i (hi : i < (xs ++ [f]).length) (sl2 : List Slot), (∀ j, j < sl'.length → sl2[j]? = sl'[j]?) → ∃ b', rdT (.agg FS) (hL sl2) (V.add s'.a (i * 6)) = some (low b' (xs ++ [f])[i]) := by
  have hlf : (LT.lo b FC f).length = 6 := rfl
  rcases H with ⟨rfl, hs⟩ | ⟨h0, id, n, rest, rfl, hn, hlo, h4, h5⟩
  · refine ⟨⟨.hp sl.length (1 * 6) 0, 1, 1, true⟩, sl ++ [.own (LT.lo b FC f) 6], ?_, rfl, fun i hi sl2 h2 => ?_⟩
    · rcases hs with rfl | rfl <;>
      · simp only [appendS, appendV, nilSV, newAt]
        rw [if_neg (by decide), guardO_pos ⟨by unfold roomCells; omega, by decide⟩, if_pos ⟨trivial, trivial, trivial⟩, hL_new]
        rfl
    · have hi0 : i = 0 := by simp only [List.nil_append, List.length_cons, List.length_nil] at hi; omega
      subst hi0
      have h2' := h2 sl.length (by simp)
      rw [List.getElem?_append_right (Nat.le_refl _), Nat.sub_self] at h2'
      exact ⟨b, rd_mixed (N := 1) (i := 0) h2' rfl (by omega) rfl⟩
  · have hx0 : xs.length ≠ 0 := fun e => h0 (List.eq_nil_of_length_eq_zero e)
    have hid := (List.getElem?_eq_some_iff.1 h4).1
    have hc : (cellsL FC xs).length = xs.length * 6 := flat_length (ls := FC) xs
    have hlen : (xs ++ [f]).length = xs.length + 1 := by simp
    by_cases hr : xs.length + 1 ≤ n
    · have hsp : splice (cellsL FC xs ++ rest) (0 + xs.length * 6) (LT.lo b FC f) = cellsL FC xs ++ LT.lo b FC f ++ rest.drop 6 := by
        unfold splice
        rw [Nat.zero_add, List.take_left' hc, hlf, ← List.drop_drop, List.drop_left' hc]
      have hN : (cellsL FC xs ++ LT.lo b FC f ++ rest.drop 6).length = n * 6 := by
        rw [List.length_append] at h5
        rw [List.length_append, List.length_append, hlf, List.length_drop, hc]
        omega
      refine ⟨sQ id n (xs.length + 1) n true, sl.set id (.own (cellsL FC xs ++ LT.lo b FC f ++ rest.drop 6) 6), ?_, by rw [hlen], fun i hi sl2 h2 => ?_⟩
      · simp only [appendS, appendV]
        rw [if_neg (by decide), guardO_pos ⟨by unfold roomCells; omega, by decide⟩, hL_m, h4]
        simp only [Option.getD_some]
        rw [if_neg (by omega), if_pos hr, wrs_own h4 h5 (by rw [hlf]; omega), hsp]
        rfl
      · have h2' := h2 id (by rw [List.length_set]; exact hid)
        rw [List.getElem?_set_self hid] at h2'
        obtain ⟨b', hb⟩ := mixed_at (b := b) (rest := rest.drop 6) (List.getElem?_eq_getElem hi)
        exact ⟨b', rd_mixed h2' hN (by omega) hb⟩
    · have hnn : n = xs.length := by omega
      subst hnn
      have hrest : rest = [] := by
        rw [List.length_append, hc] at h5
        exact List.eq_nil_of_length_eq_zero (by omega)
      subst hrest
      rw [List.append_nil] at h4 h5
      have hN : (cellsL FC xs ++ LT.lo b FC f).length = (xs.length + 1) * 6 := by rw [List.length_append, hc, hlf]; omega
      refine ⟨sQ id (xs.length + 1) (xs.length + 1) (xs.length + 1) true, sl.set id (.own (cellsL FC xs ++ LT.lo b FC f) 6), ?_, by rw [hlen], fun i hi sl2 h2 => ?_⟩
      · simp only [appendS, appendV]
        rw [if_neg (by decide), guardO_pos ⟨by unfold roomCells; omega, by decide⟩, hL_m, h4]
        simp only [Option.getD_some]
        rw [if_neg hx0, if_neg (by omega), if_pos ⟨trivial, trivial, h5, trivial, trivial, Nat.le_refl _, by decide⟩, List.take_of_length_le (by rw [h5]; exact Nat.le_refl _), hL_put hid]
      · have h2' := h2 id (by rw [List.length_set]; exact hid)
        rw [List.getElem?_set_self hid] at h2'
        obtain ⟨b', hb⟩ := mixed_at (b := b) (rest := []) (List.getElem?_eq_getElem hi)
        rw [List.append_nil] at hb
        exact ⟨b', rd_mixed h2' hN (by omega) hb⟩
def knownF (l : List Fct) (f : Fct) : Bool := l.any fun g => decide (cmpF f g = 0)
theorem known_iff {l : List Fct} {f : Fct} : knownF l f = true ↔ f ∈ l := by
  unfold knownF
  rw [List.any_eq_true]
  constructor
  · rintro ⟨x, hx, h⟩
    have := cmpF_to.zero _ _ (of_decide_eq_true h)
    subst this
    exact hx
  · intro h
    exact ⟨f, h, decide_eq_true (cmpF_self f)⟩
def addF (l : List Fct) (f : Fct) : List Fct × Bool × Int := if checkL l = 0 then (if checkF f = 0 then (onceF (l ++ [f]), !knownF l f, 0) else ([], false, 1)) else ([], false, checkL l)
theorem any_same {l : List Fct} {f : Fct} : ((onceF l).any fun g => decide (cmpF f g = 0)) = knownF l f := by
  show knownF (onceF l) f = _
  rw [Bool.eq_iff_iff, known_iff, known_iff, onceF_mem]
theorem Add_ok (l : List Fct) (f : Fct) (hl : checkL l = 0 → l.length ≤ 16) (hs : ∀ x ∈ l, smallF x) (hf : smallF f) (hset : checkL l ≠ 0 → ∃ r, arrival_set (rowSV false FC l) (hL [cFt false f]) = some r) : arrival_AddP l f = some (addF l f) := by
  have CF := Check_ok f
  by_cases he : checkL l = 0
  case neg =>
    obtain ⟨r, hr⟩ := hset he
    obtain ⟨f0, f1, f2, f3, f4, f5⟩ := f
    unfold arrival_AddP arrival_Add addF
    try simp -implicitDefEqProofs only [evs, reduceIte, rdRes, rdTT, rdTy, rdLT, Res.un, TT.un, Ty.un, LT.un, Leaf.un, Leaf.plain, LT.plain, hL_empty, hL_new, List.nil_append, rowSV_len, rowSV_cap, rowSV_tail, row_facts, Option.bind_some, checkP_ok]
    have hr' : arrival_set (rowSV false FC l) (hL [.own [.int .i64 f0, .int .i64 f1, .int .i64 f2, .int .i64 f3, .slice (rowSV false [.int .i64] f4).a f4.length f4.length true, .slice (rowSV false [.str] f5).a f5.length f5.length true] 6]) = some r := hr
    rw [hr', if_neg he, decide_eq_false he]
    rfl
  have hl16 := hl he
  obtain ⟨s, sl, k1, H, old⟩ := set_at (a := rowSV false FC l) l (by omega) hs [cFt false f] rfl (fun i hi sl _ => ⟨false, src_row hi sl⟩)
  have h0 : sl[0]? = some (cFt false f) := old 0 (by simp)
  have hsl : 0 < sl.length := (List.getElem?_eq_some_iff.1 h0).1
  have r0 : ∀ J, rdT (.agg FS) (hL (sl ++ J)) (.hp 0 6 0) = some (low false f) := fun J => (rds_cFt (by rw [List.getElem?_append_left hsl, h0])).1
  have r0' : rdT (.agg FS) (hL sl) (.hp 0 6 0) = some (low false f) := (rds_cFt h0).1
  have hol := onceF_len l
  obtain ⟨J, hJ⟩ := ContainsF_grow (T := arrival_Add.tb) (v := .func 69 [.hp 0 6 0]) (B := sl) (xs := onceF l) (s := s) (f := true) (fun g => decide (cmpF f g = 0)) H.len (by omega)
    (fun i x hx J => (H.frame fun j _ hj => List.getElem?_append_left hj).at_ hx) (fun g hg J R k => call69 rfl h0 (small_ok hf) k)
  rw [any_same] at hJ
  have H2 : Holds [cFt false f].length (sl ++ J) (onceF l) s := H.frame fun j _ hj => List.getElem?_append_left hj
  obtain ⟨s', sl', a1, a2, a3⟩ := append_any (b := false) (f := f) H2 (by omega)
  have hsm : ∀ x ∈ onceF l ++ [f], smallF x := fun x hx => by
    rcases List.mem_append.1 hx with h | h
    · exact once_small hs x h
    · rw [List.mem_singleton.1 h]; exact hf
  obtain ⟨s19, sl3, b1, H3, _⟩ := set_at (a := s') (onceF l ++ [f]) (by rw [List.length_append, List.length_singleton]; omega) hsm sl' a2 a3
  have hon : onceF (onceF l ++ [f]) = onceF (l ++ [f]) := onceF_same fun x => by simp only [List.mem_append, onceF_mem]
  rw [hon] at H3
  have R3 : rdRow false (hL sl3) FC s19 = some (onceF (l ++ [f])) := H3.read
  have hslen := H.len
  unfold arrival_AddP arrival_Add addF
  obtain ⟨f0, f1, f2, f3, f4, f5⟩ := f
  try simp -implicitDefEqProofs only [evs, reduceIte, rdRes, rdTT, rdTy, rdLT, Res.un, TT.un, Ty.un, LT.un, Leaf.un, Leaf.plain, LT.plain, hL_empty, hL_new, hL_next, List.nil_append, List.length_nil, rowSV_len, rowSV_cap, rowSV_tail, row_facts, Option.bind_some, checkP_ok]
  have k1' : arrival_set (rowSV false FC l) (hL [.own [.int .i64 f0, .int .i64 f1, .int .i64 f2, .int .i64 f3, .slice (rowSV false [.int .i64] f4).a f4.length f4.length true, .slice (rowSV false [.str] f5).a f5.length f5.length true] 6]) = some (s, hL sl) := k1
  rw [k1', if_pos he, decide_eq_true he]
  try simp -implicitDefEqProofs only [Option.bind_some, Bool.not_true, cond_false, r0', low, row_ints', row_texts', CF]
  by_cases hc : checkF (f0, f1, f2, f3, f4, f5) = 0
  case neg =>
    rw [if_neg hc, decide_eq_false hc]
    rfl
  rw [if_pos hc, decide_eq_true hc]
  have hn : ¬ (s.len : Int) = 1024 := by rw [hslen]; omega
  try simp -implicitDefEqProofs only [Option.bind_some, Bool.not_true, cond_false, hJ, decide_eq_false hn, r0, low]
  have a1' : appendS (hL (sl ++ J)) none 6 80 s [.int .i64 f0, .int .i64 f1, .int .i64 f2, .int .i64 f3, .slice (rowSV false [.int .i64] f4).a f4.length f4.length true, .slice (rowSV false [.str] f5).a f5.length f5.length true] 1 = some (s', hL sl') := a1
  try simp -implicitDefEqProofs only [Option.bind_some, rowSV_len, rowSV_cap, rowSV_tail, a1', b1]
  have R3' : rdRow false (hL sl3) FC ⟨s19.a, s19.len, s19.cap, s19.tail⟩ = some (onceF (l ++ [(f0, f1, f2, f3, f4, f5)])) := R3
  try simp -implicitDefEqProofs only [evs, reduceIte, rdRes, rdTT, rdTy, rdLT, Res.un, TT.un, Ty.un, LT.un, Leaf.un, Leaf.plain, LT.plain, R3']
theorem mid_eq {lo hi : Nat} (h : lo + hi < 4611686018427387904) : IntKind.wrap .i64 (Int.fdiv (IntKind.wrap .u64 (IntKind.wrap .i64 ((lo : Int) + (hi : Int)))) (2 ^ (min (Int.toNat 1) (IntKind.bits .u64)))) = (((lo + hi) / 2 : Nat) : Int) := by
  rw [← Int.natCast_add, i64_nat (by omega), IntWalk.u64_in _ (by omega), show ((2 : Int) ^ (min (Int.toNat 1) (IntKind.bits .u64))) = 2 from rfl, Int.fdiv_eq_ediv_of_nonneg _ (by omega)]
  rw [show (((lo + hi : Nat) : Int) / 2) = (((lo + hi) / 2 : Nat) : Int) by omega, i64_nat (by omega)]
theorem sorted_lt {ys : List Fct} (h : ys.Pairwise fun a b => cmpF a b < 0) {i j : Nat} (hij : i < j) (hj : j < ys.length) : cmpF (gq ys i) (gq ys j) < 0 := by
  rw [gq_eq (by omega), gq_eq hj]
  exact List.pairwise_iff_getElem.1 h i j (by omega) hj hij
theorem Search_at {T : Table} (hT : T.dy.fn 33 = fact_CompareP.e) {ys : List Fct} {x : Fct} (hs : ys.Pairwise fun a b => cmpF a b < 0) (hn : ys.length < 2 ^ 60) (hok : ∀ y ∈ ys, okF y = true) (sl : List Slot) :
    ∃ i, slices_BinarySearchFunc_F3 T (rowSV true FC ys) (low true x) (.func 33 []) (hL sl) = some ((i, knownF ys x), hL (sl ++ [cFt true x])) := by
  have hT' : (slices_BinarySearchFunc_F3.tb T).dy.fn 33 = fact_CompareP.e := hT
  have okq : ∀ i, i < ys.length → okF (gq ys i) = true := fun i hi => by rw [gq_eq hi]; exact hok _ (List.getElem_mem hi)
  have rx : rdT (.agg FS) (hL (sl ++ [cFt true x])) (.hp sl.length 6 0) = some (low true x) := (rds_cFt (by simp)).1
  have ry : ∀ i, i < ys.length → ∀ h, rdT (.agg FS) h (V.add (rowSV true FC ys).a (i * 6)) = some (low true (gq ys i)) := fun i hi h => by
    rw [rd_fact, gq_some hi]; rfl
  have cc : ∀ (a : Fct), okF a = true → ∀ {R : Type} (k : V → H → Option R) (h : H), callV T.dy (.func 33 []) [argF true a, argF true x] h k = k (.int .i64 (cmpF a x)) h := fun a ha R k h => by
    rw [call33 hT, Compare_ok a x ha]; rfl
  obtain ⟨q, hq, i, rfl, hi, h1, h2⟩ := iter_inv (f := slices_BinarySearchFunc_F3.loop1 T (hL sl) (rowSV true FC ys) (.func 33 []))
    (Inv := fun st => ∃ i j : Nat, st = (((i : Int), (j : Int)), hL (sl ++ [cFt true x])) ∧ i ≤ j ∧ j ≤ ys.length ∧ (∀ k, k < i → cmpF (gq ys k) x < 0) ∧ ∀ k, j ≤ k → k < ys.length → ¬ cmpF (gq ys k) x < 0)
    (Post := fun q => ∃ i : Nat, q = (.ex0 (i : Int), hL (sl ++ [cFt true x])) ∧ i ≤ ys.length ∧ (∀ k, k < i → cmpF (gq ys k) x < 0) ∧ ∀ k, i ≤ k → k < ys.length → ¬ cmpF (gq ys k) x < 0)
    (fun st => st.1.2.toNat - st.1.1.toNat) (fun st hi => by
      obtain ⟨i, j, rfl, hij, hj, h1, h2⟩ := hi
      by_cases hlt : i < j
      · left
        have hm : (i + j) / 2 < ys.length := by omega
        by_cases hc : cmpF (gq ys ((i + j) / 2)) x < 0
        · refine ⟨((((i + j) / 2 + 1 : Nat) : Int), (j : Int), hL (sl ++ [cFt true x])) |> fun (a, b, c) => ((a, b), c), ?_, ⟨(i + j) / 2 + 1, j, rfl, by omega, hj, fun k hk => ?_, h2⟩, by simp only [Int.toNat_natCast]; omega⟩
          · unfold slices_BinarySearchFunc_F3.loop1
            try simp -implicitDefEqProofs only [reserve0, rowSV_len, hL_next]
            rw [decide_eq_true (by omega), cond_true, mid_eq (by omega), guardO_pos (by omega), Int.toNat_natCast, ry _ hm]
            try simp -implicitDefEqProofs only [Option.bind_some, low, rowSV_len, rowSV_cap, rowSV_tail]
            have rx' := rx
            simp only [low] at rx'
            rw [rx']
            try simp -implicitDefEqProofs only [Option.bind_some, rowSV_len, rowSV_cap, rowSV_tail]
            rw [cc _ (okq _ hm)]
            try simp -implicitDefEqProofs only [packQ, Option.bind_some]
            rw [decide_eq_true hc]
            try simp -implicitDefEqProofs only [cond_true, Option.bind_some]
            rw [i64_suc (by omega)]
          · by_cases hk2 : k = (i + j) / 2
            · rw [hk2]; exact hc
            · exact cmpF_to.trans _ _ _ (sorted_lt hs (by omega) hm) hc
        · refine ⟨((i : Int), (((i + j) / 2 : Nat) : Int), hL (sl ++ [cFt true x])) |> fun (a, b, c) => ((a, b), c), ?_, ⟨i, (i + j) / 2, rfl, by omega, by omega, h1, fun k hk hkl => ?_⟩, by simp only [Int.toNat_natCast]; omega⟩
          · unfold slices_BinarySearchFunc_F3.loop1
            try simp -implicitDefEqProofs only [reserve0, rowSV_len, hL_next]
            rw [decide_eq_true (by omega), cond_true, mid_eq (by omega), guardO_pos (by omega), Int.toNat_natCast, ry _ hm]
            try simp -implicitDefEqProofs only [Option.bind_some, low, rowSV_len, rowSV_cap, rowSV_tail]
            have rx' := rx
            simp only [low] at rx'
            rw [rx']
            try simp -implicitDefEqProofs only [Option.bind_some, rowSV_len, rowSV_cap, rowSV_tail]
            rw [cc _ (okq _ hm)]
            try simp -implicitDefEqProofs only [packQ, Option.bind_some]
            rw [decide_eq_false hc]
            try simp -implicitDefEqProofs only [cond_false, Option.bind_some]
          · intro hl
            by_cases hk2 : k = (i + j) / 2
            · rw [hk2] at hl; exact hc hl
            · exact hc (cmpF_to.trans _ _ _ (sorted_lt hs (by omega) hkl) hl)
      · right
        have : i = j := by omega
        subst this
        refine ⟨(.ex0 (i : Int), hL (sl ++ [cFt true x])), ?_, i, rfl, hj, h1, h2⟩
        unfold slices_BinarySearchFunc_F3.loop1
        try simp -implicitDefEqProofs only []
        rw [decide_eq_false (by omega), cond_false]) FUEL ((0, (ys.length : Int)), hL (sl ++ [cFt true x])) ⟨0, ys.length, rfl, Nat.zero_le _, Nat.le_refl _, fun k hk => by omega, fun k hk hkl => by omega⟩ (fuel_gt (by simp only [Int.toNat_natCast]; omega))
  refine ⟨(i : Int), ?_⟩
  have hat : x ∈ ys → ∃ k, k < ys.length ∧ cmpF (gq ys k) x = 0 ∧ gq ys k = x := fun h => by
    obtain ⟨k, hk, e⟩ := List.getElem_of_mem h
    have : gq ys k = x := by rw [gq_eq hk, e]
    exact ⟨k, hk, by rw [this]; exact cmpF_self x, this⟩
  have hfound : i < ys.length → decide (cmpF (gq ys i) x = 0) = knownF ys x := fun hil => by
    rw [Bool.eq_iff_iff, known_iff, decide_eq_true_iff]
    constructor
    · intro h
      rw [← cmpF_to.zero _ _ h, gq_eq hil]
      exact List.getElem_mem _
    · intro h
      obtain ⟨k, hk, e, ek⟩ := hat h
      by_cases hki : k < i
      · have := h1 k hki; omega
      · by_cases hke : k = i
        · rw [← hke]; exact e
        · have := sorted_lt hs (show i < k by omega) hk
          rw [ek] at this
          exact absurd this (h2 i (Nat.le_refl _) hil)
  have hnone : ys.length ≤ i → false = knownF ys x := fun hil => by
    cases hh : knownF ys x with
    | false => rfl
    | true =>
      obtain ⟨k, hk, e, _⟩ := hat (known_iff.1 hh)
      have := h1 k (by omega)
      omega
  obtain ⟨x0, x1, x2, x3, x4, x5⟩ := x
  unfold slices_BinarySearchFunc_F3
  try simp -implicitDefEqProofs only [low, rowSV_len, rowSV_cap, rowSV_tail, hL_new]
  have hq' : iter FUEL (slices_BinarySearchFunc_F3.loop1 T (hL sl) (rowSV true FC ys) (.func 33 [])) ((0, (ys.length : Int)), hL (sl ++ [.own [.int .i64 x0, .int .i64 x1, .int .i64 x2, .int .i64 x3, .slice (rowSV true [.int .i64] x4).a x4.length x4.length true, .slice (rowSV true [.str] x5).a x5.length x5.length true] 6])) = _ := hq
  rw [hq']
  try simp -implicitDefEqProofs only [Option.bind_some, reserve0]
  by_cases hin : (i : Int) < (ys.length : Int)
  · rw [decide_eq_true hin, cond_true, guardO_pos (by omega), Int.toNat_natCast, ry i (by omega)]
    try simp -implicitDefEqProofs only [Option.bind_some, low, rowSV_len, rowSV_cap, rowSV_tail, hL_next]
    have rx' := rx
    simp only [low] at rx'
    rw [rx']
    try simp -implicitDefEqProofs only [Option.bind_some, rowSV_len, rowSV_cap, rowSV_tail]
    rw [cc _ (okq i (by omega))]
    try simp -implicitDefEqProofs only [packQ, Option.bind_some]
    rw [hfound (by omega)]
  · rw [decide_eq_false hin]
    try simp -implicitDefEqProofs only [cond_false, Option.bind_some]
    rw [hnone (by omega)]
def withoutF (xs ys : List Fct) : List Fct := xs.filter fun x => !knownF ys x
theorem without_at {xs ys : List Fct} (hs : ys.Pairwise fun a b => cmpF a b < 0) (hn : ys.length < 2 ^ 60) (hok : ∀ y ∈ ys, okF y = true) (hx : xs.length ≤ 2 ^ 20) (sl0 : List Slot) :
    ∃ s sl o, arrival_without (rowSV true FC xs) (rowSV true FC ys) (hL sl0) = some (s, hL sl) ∧ Acc sl FC (withoutF xs ys) s o ∧ (∀ j, j < sl0.length → sl[j]? = sl0[j]?) ∧ (∀ id, o = some id → sl0.length ≤ id) := by
  obtain ⟨q, hq, s, sl, o, rfl, acc, old, ho⟩ := iter_inv (f := arrival_without.loop1 (rowSV true FC xs) (rowSV true FC ys))
    (Inv := fun st => ∃ (i : Nat) (s : SV) (sl : List Slot) (o : Option Nat), st = ((s, (i : Int)), hL sl) ∧ i ≤ xs.length ∧ Acc sl FC (withoutF (xs.take i) ys) s o ∧ (∀ j, j < sl0.length → sl[j]? = sl0[j]?) ∧ (∀ id, o = some id → sl0.length ≤ id) ∧ sl0.length ≤ sl.length)
    (Post := fun q => ∃ (s : SV) (sl : List Slot) (o : Option Nat), q = (.ex0 s, hL sl) ∧ Acc sl FC (withoutF xs ys) s o ∧ (∀ j, j < sl0.length → sl[j]? = sl0[j]?) ∧ (∀ id, o = some id → sl0.length ≤ id))
    (fun st => xs.length - st.1.2.toNat) (fun st hi => by
      obtain ⟨i, s, sl, o, rfl, hil, acc, old, ho, hsl⟩ := hi
      by_cases hlt : i < xs.length
      · left
        have hxi : xs[i]? = some xs[i] := List.getElem?_eq_getElem hlt
        obtain ⟨r, hr⟩ := Search_at (T := arrival_without.tb) (x := xs[i]) rfl hs hn hok (sl ++ [cFt true xs[i]])
        have hw := wr_new (sl := sl) (e := 6) (g := 6) (i := sl.length) (cs := [.int .i64 0, .int .i64 0, .int .i64 0, .int .i64 0, .slice .nil 0 0 false, .slice .nil 0 0 false]) (vs := LT.lo true FC xs[i]) rfl rfl rfl
        have q1 := (rds_cFt (sl := sl ++ [cFt true xs[i]]) (id := sl.length) (x := xs[i]) (f := true) (by simp)).1
        have q2 := (rds_cFt (sl := sl ++ [cFt true xs[i]] ++ [cFt true xs[i]]) (id := sl.length) (x := xs[i]) (f := true) (by simp)).1
        have tk : withoutF (xs.take (i + 1)) ys = withoutF (xs.take i) ys ++ (bif !knownF ys xs[i] then [xs[i]] else []) := by
          unfold withoutF
          rw [List.take_add_one, hxi, Option.toList_some, List.filter_append]
          cases h : knownF ys xs[i] <;> simp [h]
        have acc1 : Acc (sl ++ [cFt true xs[i]] ++ [cFt true xs[i]]) FC (withoutF (xs.take i) ys) s o := acc.more.more
        have hwl : (withoutF (xs.take i) ys).length ≤ i := by
          have := List.length_filter_le (fun x => !knownF ys x) (xs.take i)
          rw [List.length_take] at this
          unfold withoutF
          omega
        have old1 : ∀ j, j < sl0.length → (sl ++ [cFt true xs[i]] ++ [cFt true xs[i]])[j]? = sl0[j]? := fun j hj => by
          rw [List.append_assoc, List.getElem?_append_left (by omega), old j hj]
        have hw' : H.wrs (hL (sl ++ [.own [.int .i64 0, .int .i64 0, .int .i64 0, .int .i64 0, .slice .nil 0 0 false, .slice .nil 0 0 false] 6])) (.hp sl.length 6 0) [.int .i64 xs[i].1, .int .i64 xs[i].2.1, .int .i64 xs[i].2.2.1, .int .i64 xs[i].2.2.2.1, .slice (rowSV true j1 xs[i].2.2.2.2.1).a xs[i].2.2.2.2.1.length xs[i].2.2.2.2.1.length true, .slice (rowSV true t1 xs[i].2.2.2.2.2).a xs[i].2.2.2.2.2.length xs[i].2.2.2.2.2.length true] = some (hL (sl ++ [cFt true xs[i]])) := hw
        cases hk : knownF ys xs[i]
        · obtain ⟨s', sl', id', k1, k2, k3, k4, k5⟩ := acc1.append (w := 6) (b := 80) (x := xs[i]) (vs := LT.lo true FC xs[i]) rfl (by decide) (by omega) (by decide) rfl
          rw [hk] at hr
          have k1' : appendS (hL (sl ++ [cFt true xs[i]] ++ [cFt true xs[i]])) none 6 80 s [.int .i64 xs[i].1, .int .i64 xs[i].2.1, .int .i64 xs[i].2.2.1, .int .i64 xs[i].2.2.2.1, .slice (rowSV true j1 xs[i].2.2.2.2.1).a xs[i].2.2.2.2.1.length xs[i].2.2.2.2.1.length true, .slice (rowSV true t1 xs[i].2.2.2.2.2).a xs[i].2.2.2.2.2.length xs[i].2.2.2.2.2.length true] 1 = some (s', hL sl') := k1
          refine ⟨((s', ((i + 1 : Nat) : Int)), hL sl'), ?_, ⟨i + 1, s', sl', some id', rfl, by omega, ?_, fun j hj => ?_, fun id e => ?_, ?_⟩, by simp only [Int.toNat_natCast]; omega⟩
          · unfold arrival_without.loop1
            try simp -implicitDefEqProofs only [rowSV_len, Int.toNat_natCast]
            rw [decide_eq_true (by omega), cond_true, guardO_pos (by omega), rd_fact, hxi]
            try simp -implicitDefEqProofs only [Option.bind_some, Option.map_some, low, rowSV_len, rowSV_cap, rowSV_tail, hL_new, hL_next]
            rw [hw', Option.bind_some, q1, Option.bind_some]
            rw [hr, Option.bind_some]
            simp only [Bool.not_false, cond_true]
            rw [q2, Option.bind_some]
            try simp -implicitDefEqProofs only [low, rowSV_len, rowSV_cap, rowSV_tail]
            rw [k1', Option.bind_some]
            try simp -implicitDefEqProofs only [Option.bind_some]
            rw [i64_suc (by omega)]
          · rw [tk, hk]
            exact k2
          · rw [k5 j (fun e => by have := ho j e; omega) (by rw [List.length_append, List.length_append]; omega), old1 j hj]
          · cases e
            rcases k3 with h | ⟨_, h⟩
            · exact ho _ h
            · rw [h, List.length_append, List.length_append]; omega
          · rw [List.length_append, List.length_append] at k4; omega
        · rw [hk] at hr
          refine ⟨((s, ((i + 1 : Nat) : Int)), hL (sl ++ [cFt true xs[i]] ++ [cFt true xs[i]])), ?_, ⟨i + 1, s, _, o, rfl, by omega, ?_, old1, ho, by rw [List.length_append, List.length_append]; omega⟩, by simp only [Int.toNat_natCast]; omega⟩
          · unfold arrival_without.loop1
            try simp -implicitDefEqProofs only [rowSV_len, Int.toNat_natCast]
            rw [decide_eq_true (by omega), cond_true, guardO_pos (by omega), rd_fact, hxi]
            try simp -implicitDefEqProofs only [Option.bind_some, Option.map_some, low, rowSV_len, rowSV_cap, rowSV_tail, hL_new, hL_next]
            rw [hw', Option.bind_some, q1, Option.bind_some]
            rw [hr, Option.bind_some]
            simp only [Bool.not_true, cond_false, Option.bind_some]
            rw [i64_suc (by omega)]
          · rw [tk, hk]
            simpa using acc1
      · right
        have : i = xs.length := by omega
        subst this
        refine ⟨(.ex0 s, hL sl), ?_, s, sl, o, rfl, by rw [List.take_length] at acc; exact acc, old, ho⟩
        unfold arrival_without.loop1
        try simp -implicitDefEqProofs only [rowSV_len]
        rw [decide_eq_false (by omega), cond_false]) FUEL ((⟨.nil, 0, 0, false⟩, 0), hL sl0) ⟨0, _, sl0, none, rfl, Nat.zero_le _, Acc.nil, fun _ _ => rfl, (fun _ e => by cases e), Nat.le_refl _⟩ (fuel_gt (by simp only [Int.toNat_zero]; omega))
  refine ⟨s, sl, o, ?_, acc, old, ho⟩
  unfold arrival_without
  rw [hq]
  rfl
def differF (a b : List Fct) : List Fct × List Fct × Int :=
  if 1024 < a.length ∨ 1024 < b.length then ([], [], 8) else if checkL a = 0 ∧ checkL b = 0 then (withoutF (onceF a) (onceF b), withoutF (onceF b) (onceF a), 0) else ([], [], 1)
theorem differ_loop (a b : List Fct) (h : H) : iter FUEL (arrival_Differ.loop1 (rowSV false FC a) (rowSV false FC b)) (0, h) = some (if 1024 < a.length ∨ 1024 < b.length then (.ret (⟨.nil, 0, 0, false⟩, ⟨.nil, 0, 0, false⟩, 8), h) else (.ex0 (), h)) := by
  have s0 : arrival_Differ.loop1 (rowSV false FC a) (rowSV false FC b) (0, h) = some (bif decide ((1024 : Int) < (a.length : Int)) then .done (.ret (⟨.nil, 0, 0, false⟩, ⟨.nil, 0, 0, false⟩, 8), h) else .more (1, h)) := by
    unfold arrival_Differ.loop1
    have : rdT (.leaf .slice) h (.lp true [slV (rowSV false FC a), slV (rowSV false FC b)] 0) = some (rowSV false FC a) := rfl
    have this' : rdT (.leaf .slice) h (.lp true [.slice (rowSV false FC a).a a.length a.length true, .slice (rowSV false FC b).a b.length b.length true] (0 + Int.toNat 0 * 1)) = some (rowSV false FC a) := this
    try simp -implicitDefEqProofs only [rowSV_len, rowSV_cap, rowSV_tail]
    rw [decide_eq_true (by omega), cond_true, guardO_pos (by omega), this', Option.bind_some]
    try simp -implicitDefEqProofs only [rowSV_len]
    cases decide ((1024 : Int) < (a.length : Int)) <;> rfl
  have s1 : arrival_Differ.loop1 (rowSV false FC a) (rowSV false FC b) (1, h) = some (bif decide ((1024 : Int) < (b.length : Int)) then .done (.ret (⟨.nil, 0, 0, false⟩, ⟨.nil, 0, 0, false⟩, 8), h) else .more (2, h)) := by
    unfold arrival_Differ.loop1
    have : rdT (.leaf .slice) h (.lp true [slV (rowSV false FC a), slV (rowSV false FC b)] 1) = some (rowSV false FC b) := rfl
    have this' : rdT (.leaf .slice) h (.lp true [.slice (rowSV false FC a).a a.length a.length true, .slice (rowSV false FC b).a b.length b.length true] (0 + Int.toNat 1 * 1)) = some (rowSV false FC b) := this
    try simp -implicitDefEqProofs only [rowSV_len, rowSV_cap, rowSV_tail]
    rw [decide_eq_true (by omega), cond_true, guardO_pos (by omega), this', Option.bind_some]
    try simp -implicitDefEqProofs only [rowSV_len]
    cases decide ((1024 : Int) < (b.length : Int)) <;> rfl
  have s2 : arrival_Differ.loop1 (rowSV false FC a) (rowSV false FC b) (2, h) = some (.done (.ex0 (), h)) := by
    unfold arrival_Differ.loop1
    try simp -implicitDefEqProofs only []
    rw [decide_eq_false (by omega), cond_false]
  have fu : ∃ n, FUEL = n + 1 + 1 + 1 := ⟨FUEL - 3, by unfold FUEL; omega⟩
  obtain ⟨n, hn⟩ := fu
  rw [hn]
  by_cases ha : 1024 < a.length
  · rw [if_pos (.inl ha)]
    rw [decide_eq_true (show (1024 : Int) < (a.length : Int) by omega), cond_true] at s0
    simp only [iter, s0, Option.bind_some]
  · rw [decide_eq_false (show ¬ (1024 : Int) < (a.length : Int) by omega), cond_false] at s0
    by_cases hb : 1024 < b.length
    · rw [if_pos (.inr hb)]
      rw [decide_eq_true (show (1024 : Int) < (b.length : Int) by omega), cond_true] at s1
      simp only [iter, s0, s1, Option.bind_some]
    · rw [if_neg (fun h => h.elim ha hb)]
      rw [decide_eq_false (show ¬ (1024 : Int) < (b.length : Int) by omega), cond_false] at s1
      simp only [iter, s0, s1, s2, Option.bind_some]
theorem once_ok {l : List Fct} (h : ∀ x ∈ l, smallF x) : ∀ x ∈ onceF l, okF x = true := fun x hx => small_ok (once_small h x hx)
theorem Differ_ok (a b : List Fct) (ha : checkL a = 0 → a.length ≤ 19) (hb : checkL b = 0 → b.length ≤ 19) (hsa : ∀ x ∈ a, smallF x) (hsb : ∀ x ∈ b, smallF x) : arrival_DifferP a b = some (differF a b) := by
  unfold arrival_DifferP arrival_Differ differF
  rw [differ_loop]
  by_cases hbig : 1024 < a.length ∨ 1024 < b.length
  · rw [if_pos hbig, if_pos hbig]
    rfl
  rw [if_neg hbig, if_neg hbig, Option.bind_some]
  try simp -implicitDefEqProofs only [row_facts, Option.bind_some, checkP_ok]
  by_cases h1 : checkL a = 0
  case neg =>
    rw [decide_eq_false h1, if_neg (fun h => h1 h.1)]
    rfl
  by_cases h2 : checkL b = 0
  case neg =>
    rw [decide_eq_true h1, decide_eq_false h2, if_neg (fun h => h2 h.2)]
    rfl
  have hla := ha h1
  have hlb := hb h2
  have hoa := onceF_len a
  have hob := onceF_len b
  rw [decide_eq_true h1, decide_eq_true h2, if_pos ⟨h1, h2⟩]
  obtain ⟨s, sl, o, k1, acc, old, ho⟩ := without_at (onceF_sorted b) (by omega) (once_ok hsb) (xs := onceF a) (by omega) []
  obtain ⟨s', sl', o', k1', acc', old', ho'⟩ := without_at (onceF_sorted a) (by omega) (once_ok hsa) (xs := onceF b) (by omega) sl
  have accF : Acc sl' FC (withoutF (onceF a) (onceF b)) s o := acc.frame fun id e => by subst e; exact old' id acc.lt
  have R : rdRow false (hL sl') FC ⟨s.a, s.len, s.cap, s.tail⟩ = some (withoutF (onceF a) (onceF b)) := accF.read rfl
  have R' : rdRow false (hL sl') FC ⟨s'.a, s'.len, s'.cap, s'.tail⟩ = some (withoutF (onceF b) (onceF a)) := acc'.read rfl
  try simp -implicitDefEqProofs only [Bool.not_true, Bool.not_false, cond_true, cond_false, Option.bind_some, Set_ok a hla hsa, Set_ok b hlb hsb, hL_empty]
  have k1a : arrival_without (rowSV true FC (onceF a)) (rowSV true FC (onceF b)) (hL []) = some (s, hL sl) := k1
  have k1b : arrival_without (rowSV true FC (onceF b)) (rowSV true FC (onceF a)) (hL sl) = some (s', hL sl') := k1'
  try simp -implicitDefEqProofs only [k1a, k1b, Option.bind_some, evs, reduceIte, rdRes, rdTT, rdTy, rdLT, Res.un, TT.un, Ty.un, LT.un, Leaf.un, Leaf.plain, LT.plain, R, R']
def RowIs (y : SV) (xs : List Fct) : Prop := y = rowSV true FC xs ∨ (y = nilSV ∧ xs = [])
theorem RowIs.len {y : SV} {xs : List Fct} (h : RowIs y xs) : y.len = xs.length := by rcases h with rfl | ⟨rfl, rfl⟩ <;> rfl
theorem RowIs.read {y : SV} {xs : List Fct} (h : RowIs y xs) {h' : H} : rdRow true h' FC y = some xs := by
  rcases h with rfl | ⟨rfl, rfl⟩
  · exact row_facts
  · exact rdRow_nil
theorem RowIs.at_ {y : SV} {xs : List Fct} (h : RowIs y xs) {i : Nat} {x : Fct} (hi : xs[i]? = some x) {h' : H} : rdT (.agg FS) h' (V.add y.a (i * 6)) = some (low true x) := by
  rcases h with rfl | ⟨rfl, rfl⟩
  · rw [rd_fact, hi]; rfl
  · cases hi
def other (k : Ky) (f : Fct) : Bool := !decide (keyF f = k) && !corrects f
theorem grp_mem {r : List Fct} {k : Ky} {f : Fct} : f ∈ grp r k ↔ f ∈ r ∧ keyF f = k := by
  unfold grp
  rw [List.mem_filter, decide_eq_true_iff]
def calm (k : Ky) (l : List Fct) : Prop := ∀ c ∈ conF (onceF l), c ≠ k → ∀ f ∈ l, keyF f = c → corrects f = false
section apart
variable {l : List Fct} {k : Ky}
theorem alone (hc : calm k l) {c : Fct} (hcl : c ∈ onceF l) (hk : keyF c ≠ k) (hcor : corrects c = true) : grp (onceF l) (keyF c) = [c] := by
  have hm : c ∈ grp (onceF l) (keyF c) := grp_mem.2 ⟨hcl, rfl⟩
  by_cases h1 : 1 < (grp (onceF l) (keyF c)).length
  · have := hc (keyF c) (conF_mem.2 h1) hk c (onceF_mem.1 hcl) rfl
    rw [hcor] at this
    cases this
  · cases hg : grp (onceF l) (keyF c) with
    | nil => rw [hg] at hm; cases hm
    | cons a t =>
      cases t with
      | nil => rw [hg] at hm; rw [List.mem_singleton.1 hm]
      | cons b t => rw [hg] at h1; simp at h1
end apart
section sym
variable {T : Table} {v : V} {sl : List Slot} {id e N : Nat}
theorem swapR_ok (hid : id < sl.length) (hN : N ≤ 2 ^ 20) {xs : List Fct} (hn : xs.length = N) {a b n : Nat} (ha : a + n ≤ N) (hb : b + n ≤ N) :
    ∃ ys, ys.Perm xs ∧ slices_swapRangeC_F T (sQ id N N N true) (a : Int) (b : Int) (n : Int) v (hQ sl id e xs) = some ((), hQ sl id e ys) := by
  obtain ⟨q, hq, ys, rfl, hp⟩ := iter_inv (f := slices_swapRangeC_F.loop1 T (sQ id N N N true) (a : Int) (b : Int) (n : Int))
    (Inv := fun st => ∃ (i : Nat) (ys : List Fct), st = ((i : Int), hQ sl id e ys) ∧ i ≤ n ∧ ys.Perm xs) (Post := fun q => ∃ ys, q = (.ex0 (), hQ sl id e ys) ∧ ys.Perm xs) (fun st => n - st.1.toNat) (fun st hi => by
      obtain ⟨i, ys, rfl, hin, hp⟩ := hi
      have hl : ys.length = N := by rw [hp.length_eq, hn]
      by_cases hlt : i < n
      · left
        refine ⟨(((i + 1 : Nat) : Int), hQ sl id e (swq (a + i) (b + i) ys)), ?_, ⟨i + 1, _, rfl, by omega, (swq_perm (by omega) (by omega)).trans hp⟩, by simp only [Int.toNat_natCast]; omega⟩
        unfold slices_swapRangeC_F.loop1
        try simp -implicitDefEqProofs only [reserve0, sQ_a, sQ_len]
        rw [decide_eq_true (by omega), cond_true, i64q (z := (a : Int) + (i : Int)) (m := a + i) (by omega) (by omega), i64q (z := (b : Int) + (i : Int)) (m := b + i) (by omega) (by omega), Int.toNat_natCast, Int.toNat_natCast, guardO_pos (by omega), rdQ hid hl (by omega)]
        try simp -implicitDefEqProofs only [Option.bind_some, low, rowSV_len, rowSV_cap, rowSV_tail]
        rw [guardO_pos (by omega), rdQ hid hl (by omega)]
        try simp -implicitDefEqProofs only [Option.bind_some, low, rowSV_len, rowSV_cap, rowSV_tail]
        rw [guardO_pos (by omega), wrQ hid hl (by omega)]
        try simp -implicitDefEqProofs only [Option.bind_some, low, rowSV_len, rowSV_cap, rowSV_tail]
        rw [guardO_pos (by omega), wrQ hid (by simpa using hl) (by omega)]
        try simp -implicitDefEqProofs only [Option.bind_some]
        rw [i64_suc (by omega)]
        rfl
      · right
        refine ⟨(.ex0 (), hQ sl id e ys), ?_, ys, rfl, hp⟩
        unfold slices_swapRangeC_F.loop1
        try simp -implicitDefEqProofs only []
        rw [decide_eq_false (by omega), cond_false]) FUEL (0, hQ sl id e xs) ⟨0, xs, rfl, Nat.zero_le _, List.Perm.refl _⟩ (fuel_gt (by simp only [Int.toNat_zero]; omega))
  refine ⟨ys, hp, ?_⟩
  unfold slices_swapRangeC_F
  rw [hq]
  rfl
theorem rot_ok (hid : id < sl.length) (hN : N ≤ 2 ^ 20) {xs : List Fct} (hn : xs.length = N) {a m b : Nat} (h1 : a < m) (h2 : m < b) (hb : b ≤ N) :
    ∃ ys, ys.Perm xs ∧ slices_rotateC_F T (sQ id N N N true) (a : Int) (m : Int) (b : Int) v (hQ sl id e xs) = some ((), hQ sl id e ys) := by
  obtain ⟨q, hq, i, ys, rfl, hi0, him, hiN, hp⟩ := iter_inv (f := slices_rotateC_F.loop1 T (sQ id N N N true) (m : Int) v)
    (Inv := fun st => ∃ (i j : Nat) (ys : List Fct), st = (((i : Int), (j : Int)), hQ sl id e ys) ∧ 0 < i ∧ 0 < j ∧ i ≤ m ∧ m + j ≤ N ∧ ys.Perm xs)
    (Post := fun q => ∃ (i : Nat) (ys : List Fct), q = (.ex0 (i : Int), hQ sl id e ys) ∧ 0 < i ∧ i ≤ m ∧ m + i ≤ N ∧ ys.Perm xs) (fun st => st.1.1.toNat + st.1.2.toNat) (fun st hi => by
      obtain ⟨i, j, ys, rfl, hi0, hj0, him, hjN, hp⟩ := hi
      have hl : ys.length = N := by rw [hp.length_eq, hn]
      by_cases hij : i = j
      · right
        subst hij
        refine ⟨(.ex0 (i : Int), hQ sl id e ys), ?_, i, ys, rfl, hi0, him, hjN, hp⟩
        unfold slices_rotateC_F.loop1
        try simp -implicitDefEqProofs only [eq_self, decide_true, Bool.not_true, cond_false]
      · left
        by_cases hlt : j < i
        · obtain ⟨zs, hz, e1⟩ := swapR_ok (T := slices_rotateC_F.tb T) (v := v) (e := e) hid hN hl (a := m - i) (b := m) (n := j) (by omega) (by omega)
          refine ⟨((((i - j : Nat) : Int), (j : Int)), hQ sl id e zs), ?_, ⟨i - j, j, zs, rfl, by omega, hj0, by omega, hjN, hz.trans hp⟩, by simp only [Int.toNat_natCast]; omega⟩
          unfold slices_rotateC_F.loop1
          try simp -implicitDefEqProofs only []
          rw [decide_eq_false (show ¬ (i : Int) = (j : Int) by omega), Bool.not_false, cond_true, decide_eq_true (show (j : Int) < (i : Int) by omega), cond_true, i64q (z := (m : Int) - (i : Int)) (m := m - i) (by omega) (by omega), e1]
          try simp -implicitDefEqProofs only [Option.bind_some]
          rw [i64q (z := (i : Int) - (j : Int)) (m := i - j) (by omega) (by omega)]
        · obtain ⟨zs, hz, e1⟩ := swapR_ok (T := slices_rotateC_F.tb T) (v := v) (e := e) hid hN hl (a := m - i) (b := m + j - i) (n := i) (by omega) (by omega)
          refine ⟨(((i : Int), ((j - i : Nat) : Int)), hQ sl id e zs), ?_, ⟨i, j - i, zs, rfl, hi0, by omega, him, by omega, hz.trans hp⟩, by simp only [Int.toNat_natCast]; omega⟩
          unfold slices_rotateC_F.loop1
          try simp -implicitDefEqProofs only []
          rw [decide_eq_false (show ¬ (i : Int) = (j : Int) by omega), Bool.not_false, cond_true, decide_eq_false (show ¬ (j : Int) < (i : Int) by omega), cond_false, i64q (z := (m : Int) - (i : Int)) (m := m - i) (by omega) (by omega), i64q (z := (m : Int) + (j : Int)) (m := m + j) (by omega) (by omega), i64q (z := ((m + j : Nat) : Int) - (i : Int)) (m := m + j - i) (by omega) (by omega), e1]
          try simp -implicitDefEqProofs only [Option.bind_some]
          rw [i64q (z := (j : Int) - (i : Int)) (m := j - i) (by omega) (by omega)]) FUEL ((((m - a : Nat) : Int), ((b - m : Nat) : Int)), hQ sl id e xs) ⟨m - a, b - m, xs, rfl, by omega, by omega, by omega, by omega, List.Perm.refl _⟩ (fuel_gt (by simp only [Int.toNat_natCast]; omega))
  have hl : ys.length = N := by rw [hp.length_eq, hn]
  obtain ⟨zs, hz, e1⟩ := swapR_ok (T := slices_rotateC_F.tb T) (v := v) (e := e) hid hN hl (a := m - i) (b := m) (n := i) (by omega) hiN
  refine ⟨zs, hz.trans hp, ?_⟩
  unfold slices_rotateC_F
  rw [i64q (z := (m : Int) - (a : Int)) (m := m - a) (by omega) (by omega), i64q (z := (b : Int) - (m : Int)) (m := b - m) (by omega) (by omega), hq, Option.bind_some]
  simp only
  rw [i64q (z := (m : Int) - (i : Int)) (m := m - i) (by omega) (by omega), e1]
  rfl
end sym
section sym
variable {T : Table} {v : V} {sl : List Slot} {id e N : Nat} {D : Fct → Prop} {c : Fct → Fct → Int}
theorem gq_mem {xs : List Fct} {k : Nat} (h : k < xs.length) : gq xs k ∈ xs := by rw [gq_eq h]; exact List.getElem_mem h
theorem sym1_ok (hid : id < sl.length) (hN : N ≤ 2 ^ 20) (hc : CmpQ T v sl id e N D c) {xs : List Fct} (hn : xs.length = N) (hD : ∀ x ∈ xs, D x) {a lo hi : Nat} (ha : a < N) (hlo : lo ≤ hi) (hhi : hi ≤ N) :
    ∃ i : Nat, iter FUEL (slices_symMergeC_F.loop1 T (sQ id N N N true) (a : Int) v) (((lo : Int), (hi : Int)), hQ sl id e xs) = some (.ex0 (i : Int), hQ sl id e xs) ∧ lo ≤ i ∧ i ≤ hi := by
  obtain ⟨q, hq, i, rfl, h1, h2⟩ := iter_inv (f := slices_symMergeC_F.loop1 T (sQ id N N N true) (a : Int) v)
    (Inv := fun st => ∃ i j : Nat, st = (((i : Int), (j : Int)), hQ sl id e xs) ∧ lo ≤ i ∧ i ≤ j ∧ j ≤ hi) (Post := fun q => ∃ i : Nat, q = (.ex0 (i : Int), hQ sl id e xs) ∧ lo ≤ i ∧ i ≤ hi) (fun st => st.1.2.toNat - st.1.1.toNat) (fun st hI => by
      obtain ⟨i, j, rfl, h1, h2, h3⟩ := hI
      by_cases hlt : i < j
      · left
        have hm : (i + j) / 2 < N := by omega
        have base : ∀ r, decide (c (gq xs ((i + j) / 2)) (gq xs a) < 0) = r → slices_symMergeC_F.loop1 T (sQ id N N N true) (a : Int) v (((i : Int), (j : Int)), hQ sl id e xs) = some (.more (bif r then ((((i + j) / 2 + 1 : Nat) : Int), (j : Int)) else ((i : Int), (((i + j) / 2 : Nat) : Int)), hQ sl id e xs)) := fun r hr => by
          unfold slices_symMergeC_F.loop1
          try simp -implicitDefEqProofs only [reserve0, sQ_a, sQ_len]
          rw [decide_eq_true (by omega), cond_true, mid_eq (by omega), guardO_pos (by omega), Int.toNat_natCast, Int.toNat_natCast, rdQ hid hn hm]
          try simp -implicitDefEqProofs only [Option.bind_some, low, rowSV_len, rowSV_cap, rowSV_tail]
          rw [guardO_pos (by omega), rdQ hid hn ha]
          try simp -implicitDefEqProofs only [Option.bind_some, low, rowSV_len, rowSV_cap, rowSV_tail]
          rw [hc _ _ xs (hD _ (gq_mem (by omega))) (hD _ (gq_mem (by omega))) hn]
          try simp -implicitDefEqProofs only [packQ, Option.bind_some]
          rw [hr]
          cases r
          · rfl
          · simp -implicitDefEqProofs only [cond_true, Option.bind_some]
            rw [i64_suc (by omega)]
        cases hr : decide (c (gq xs ((i + j) / 2)) (gq xs a) < 0)
        · exact ⟨_, base _ hr, ⟨i, (i + j) / 2, rfl, h1, by omega, by omega⟩, by simp only [cond_false, Int.toNat_natCast]; omega⟩
        · exact ⟨_, base _ hr, ⟨(i + j) / 2 + 1, j, rfl, by omega, by omega, h3⟩, by simp only [cond_true, Int.toNat_natCast]; omega⟩
      · right
        refine ⟨(.ex0 (i : Int), hQ sl id e xs), ?_, i, rfl, h1, by omega⟩
        unfold slices_symMergeC_F.loop1
        try simp -implicitDefEqProofs only []
        rw [decide_eq_false (by omega), cond_false]) FUEL (((lo : Int), (hi : Int)), hQ sl id e xs) ⟨lo, hi, rfl, Nat.le_refl _, hlo, Nat.le_refl _⟩ (fuel_gt (by simp only [Int.toNat_natCast]; omega))
  exact ⟨i, hq, h1, h2⟩
theorem sym3_ok (hid : id < sl.length) (hN : N ≤ 2 ^ 20) (hc : CmpQ T v sl id e N D c) {xs : List Fct} (hn : xs.length = N) (hD : ∀ x ∈ xs, D x) {a lo hi : Nat} (ha : a < N) (hlo : lo ≤ hi) (hhi : hi ≤ N) :
    ∃ i : Nat, iter FUEL (slices_symMergeC_F.loop3 T (sQ id N N N true) (a : Int) v) (((lo : Int), (hi : Int)), hQ sl id e xs) = some (.ex0 (i : Int), hQ sl id e xs) ∧ lo ≤ i ∧ i ≤ hi := by
  obtain ⟨q, hq, i, rfl, h1, h2⟩ := iter_inv (f := slices_symMergeC_F.loop3 T (sQ id N N N true) (a : Int) v)
    (Inv := fun st => ∃ i j : Nat, st = (((i : Int), (j : Int)), hQ sl id e xs) ∧ lo ≤ i ∧ i ≤ j ∧ j ≤ hi) (Post := fun q => ∃ i : Nat, q = (.ex0 (i : Int), hQ sl id e xs) ∧ lo ≤ i ∧ i ≤ hi) (fun st => st.1.2.toNat - st.1.1.toNat) (fun st hI => by
      obtain ⟨i, j, rfl, h1, h2, h3⟩ := hI
      by_cases hlt : i < j
      · left
        have hm : (i + j) / 2 < N := by omega
        have base : ∀ r, decide (c (gq xs a) (gq xs ((i + j) / 2)) < 0) = r → slices_symMergeC_F.loop3 T (sQ id N N N true) (a : Int) v (((i : Int), (j : Int)), hQ sl id e xs) = some (.more (bif !r then ((((i + j) / 2 + 1 : Nat) : Int), (j : Int)) else ((i : Int), (((i + j) / 2 : Nat) : Int)), hQ sl id e xs)) := fun r hr => by
          unfold slices_symMergeC_F.loop3
          try simp -implicitDefEqProofs only [reserve0, sQ_a, sQ_len]
          rw [decide_eq_true (by omega), cond_true, guardO_pos (by omega), Int.toNat_natCast, rdQ hid hn ha]
          try simp -implicitDefEqProofs only [Option.bind_some, low, rowSV_len, rowSV_cap, rowSV_tail]
          rw [mid_eq (by omega), guardO_pos (by omega), Int.toNat_natCast, rdQ hid hn hm]
          try simp -implicitDefEqProofs only [Option.bind_some, low, rowSV_len, rowSV_cap, rowSV_tail]
          rw [hc _ _ xs (hD _ (gq_mem (by omega))) (hD _ (gq_mem (by omega))) hn]
          try simp -implicitDefEqProofs only [packQ, Option.bind_some]
          rw [hr]
          cases r
          · simp -implicitDefEqProofs only [Bool.not_false, cond_true, Option.bind_some]
            rw [i64_suc (by omega)]
          · rfl
        cases hr : decide (c (gq xs a) (gq xs ((i + j) / 2)) < 0)
        · exact ⟨_, base _ hr, ⟨(i + j) / 2 + 1, j, rfl, by omega, by omega, h3⟩, by simp only [Bool.not_false, cond_true, Int.toNat_natCast]; omega⟩
        · exact ⟨_, base _ hr, ⟨i, (i + j) / 2, rfl, h1, by omega, by omega⟩, by simp only [Bool.not_true, cond_false, Int.toNat_natCast]; omega⟩
      · right
        refine ⟨(.ex0 (i : Int), hQ sl id e xs), ?_, i, rfl, h1, by omega⟩
        unfold slices_symMergeC_F.loop3
        try simp -implicitDefEqProofs only []
        rw [decide_eq_false (by omega), cond_false]) FUEL (((lo : Int), (hi : Int)), hQ sl id e xs) ⟨lo, hi, rfl, Nat.le_refl _, hlo, Nat.le_refl _⟩ (fuel_gt (by simp only [Int.toNat_natCast]; omega))
  exact ⟨i, hq, h1, h2⟩
theorem sym2_ok (hid : id < sl.length) (hN : N ≤ 2 ^ 20) {xs : List Fct} (hn : xs.length = N) {a i : Nat} (hi0 : 0 < i) (hi : i ≤ N) :
    ∃ ys, ys.Perm xs ∧ iter FUEL (slices_symMergeC_F.loop2 T (sQ id N N N true) (i : Int)) ((a : Int), hQ sl id e xs) = some (.ex0 (), hQ sl id e ys) := by
  by_cases hai : a < i
  case neg =>
    refine ⟨xs, List.Perm.refl _, iter_run (fun _ => ((a : Int), hQ sl id e xs)) 0 FUEL (fun i hi => by omega) ?_ (fuel_gt (by omega))⟩
    unfold slices_symMergeC_F.loop2
    try simp -implicitDefEqProofs only []
    rw [i64q (z := (i : Int) - 1) (m := i - 1) (by omega) (by omega), decide_eq_false (by omega), cond_false]
  obtain ⟨q, hq, ys, rfl, hp⟩ := iter_inv (f := slices_symMergeC_F.loop2 T (sQ id N N N true) (i : Int))
    (Inv := fun st => ∃ (k : Nat) (ys : List Fct), st = ((k : Int), hQ sl id e ys) ∧ k < i ∧ ys.Perm xs) (Post := fun q => ∃ ys, q = (.ex0 (), hQ sl id e ys) ∧ ys.Perm xs) (fun st => i - st.1.toNat) (fun st hI => by
      obtain ⟨k, ys, rfl, hk, hp⟩ := hI
      have hl : ys.length = N := by rw [hp.length_eq, hn]
      by_cases hlt : k < i - 1
      · left
        refine ⟨(((k + 1 : Nat) : Int), hQ sl id e (swq k (k + 1) ys)), ?_, ⟨k + 1, _, rfl, by omega, (swq_perm (by omega) (by omega)).trans hp⟩, by simp only [Int.toNat_natCast]; omega⟩
        unfold slices_symMergeC_F.loop2
        try simp -implicitDefEqProofs only [reserve0, sQ_a, sQ_len]
        rw [i64q (z := (i : Int) - 1) (m := i - 1) (by omega) (by omega), decide_eq_true (by omega), cond_true, i64_suc (by omega), guardO_pos (by omega), Int.toNat_natCast, Int.toNat_natCast, rdQ hid hl (by omega)]
        try simp -implicitDefEqProofs only [Option.bind_some, low, rowSV_len, rowSV_cap, rowSV_tail]
        rw [guardO_pos (by omega), rdQ hid hl (by omega)]
        try simp -implicitDefEqProofs only [Option.bind_some, low, rowSV_len, rowSV_cap, rowSV_tail]
        rw [guardO_pos (by omega), wrQ hid hl (by omega)]
        try simp -implicitDefEqProofs only [Option.bind_some, low, rowSV_len, rowSV_cap, rowSV_tail]
        rw [guardO_pos (by omega), wrQ hid (by simpa using hl) (by omega)]
        rfl
      · right
        refine ⟨(.ex0 (), hQ sl id e ys), ?_, ys, rfl, hp⟩
        unfold slices_symMergeC_F.loop2
        try simp -implicitDefEqProofs only []
        rw [i64q (z := (i : Int) - 1) (m := i - 1) (by omega) (by omega), decide_eq_false (by omega), cond_false]) FUEL ((a : Int), hQ sl id e xs) ⟨a, xs, rfl, hai, List.Perm.refl _⟩ (fuel_gt (by simp only [Int.toNat_natCast]; omega))
  exact ⟨ys, hp, hq⟩
theorem sym4_ok (hid : id < sl.length) (hN : N ≤ 2 ^ 20) {xs : List Fct} (hn : xs.length = N) {m i : Nat} (hm : m < N) (him : i ≤ m) :
    ∃ ys, ys.Perm xs ∧ iter FUEL (slices_symMergeC_F.loop4 T (sQ id N N N true) (i : Int)) ((m : Int), hQ sl id e xs) = some (.ex0 (), hQ sl id e ys) := by
  obtain ⟨q, hq, ys, rfl, hp⟩ := iter_inv (f := slices_symMergeC_F.loop4 T (sQ id N N N true) (i : Int))
    (Inv := fun st => ∃ (k : Nat) (ys : List Fct), st = ((k : Int), hQ sl id e ys) ∧ i ≤ k ∧ k ≤ m ∧ ys.Perm xs) (Post := fun q => ∃ ys, q = (.ex0 (), hQ sl id e ys) ∧ ys.Perm xs) (fun st => st.1.toNat) (fun st hI => by
      obtain ⟨k, ys, rfl, hk, hkm, hp⟩ := hI
      have hl : ys.length = N := by rw [hp.length_eq, hn]
      by_cases hlt : i < k
      · left
        refine ⟨(((k - 1 : Nat) : Int), hQ sl id e (swq k (k - 1) ys)), ?_, ⟨k - 1, _, rfl, by omega, by omega, (swq_perm (by omega) (by omega)).trans hp⟩, by simp only [Int.toNat_natCast]; omega⟩
        unfold slices_symMergeC_F.loop4
        try simp -implicitDefEqProofs only [reserve0, sQ_a, sQ_len]
        rw [decide_eq_true (by omega), cond_true, i64q (z := (k : Int) - 1) (m := k - 1) (by omega) (by omega), guardO_pos (by omega), Int.toNat_natCast, Int.toNat_natCast, rdQ hid hl (by omega)]
        try simp -implicitDefEqProofs only [Option.bind_some, low, rowSV_len, rowSV_cap, rowSV_tail]
        rw [guardO_pos (by omega), rdQ hid hl (by omega)]
        try simp -implicitDefEqProofs only [Option.bind_some, low, rowSV_len, rowSV_cap, rowSV_tail]
        rw [guardO_pos (by omega), wrQ hid hl (by omega)]
        try simp -implicitDefEqProofs only [Option.bind_some, low, rowSV_len, rowSV_cap, rowSV_tail]
        rw [guardO_pos (by omega), wrQ hid (by simpa using hl) (by omega)]
        rfl
      · right
        refine ⟨(.ex0 (), hQ sl id e ys), ?_, ys, rfl, hp⟩
        unfold slices_symMergeC_F.loop4
        try simp -implicitDefEqProofs only []
        rw [decide_eq_false (by omega), cond_false]) FUEL ((m : Int), hQ sl id e xs) ⟨m, xs, rfl, him, Nat.le_refl _, List.Perm.refl _⟩ (fuel_gt (by simp only [Int.toNat_natCast]; omega))
  exact ⟨ys, hp, hq⟩
theorem sym5_ok (hid : id < sl.length) (hN : N ≤ 2 ^ 20) (hc : CmpQ T v sl id e N D c) {xs : List Fct} (hn : xs.length = N) (hD : ∀ x ∈ xs, D x) {a m b lo hi : Nat} (hab : a + b ≤ 2 ^ 22) (hlo : lo ≤ hi) (hhi : hi ≤ N) (hp : hi ≤ (a + b) / 2 + m) (hq : (a + b) / 2 + m ≤ N + lo) (hm : m ≤ N) :
    ∃ i : Nat, iter FUEL (slices_symMergeC_F.loop5 T (sQ id N N N true) (a : Int) (m : Int) (b : Int) v) (((lo : Int), (hi : Int)), hQ sl id e xs) = some (.ex0 (i : Int), hQ sl id e xs) ∧ lo ≤ i ∧ i ≤ hi := by
  obtain ⟨q, hq, i, rfl, h1, h2⟩ := iter_inv (f := slices_symMergeC_F.loop5 T (sQ id N N N true) (a : Int) (m : Int) (b : Int) v)
    (Inv := fun st => ∃ i j : Nat, st = (((i : Int), (j : Int)), hQ sl id e xs) ∧ lo ≤ i ∧ i ≤ j ∧ j ≤ hi) (Post := fun q => ∃ i : Nat, q = (.ex0 (i : Int), hQ sl id e xs) ∧ lo ≤ i ∧ i ≤ hi) (fun st => st.1.2.toNat - st.1.1.toNat) (fun st hI => by
      obtain ⟨i, j, rfl, h1, h2, h3⟩ := hI
      by_cases hlt : i < j
      · left
        have hm : (i + j) / 2 < N := by omega
        obtain ⟨p, hpp⟩ : ∃ p, p = (a + b) / 2 + m - 1 - (i + j) / 2 := ⟨_, rfl⟩
        have hpN : p < N := by omega
        have base : ∀ r, decide (c (gq xs p) (gq xs ((i + j) / 2)) < 0) = r → slices_symMergeC_F.loop5 T (sQ id N N N true) (a : Int) (m : Int) (b : Int) v (((i : Int), (j : Int)), hQ sl id e xs) = some (.more (bif !r then ((((i + j) / 2 + 1 : Nat) : Int), (j : Int)) else ((i : Int), (((i + j) / 2 : Nat) : Int)), hQ sl id e xs)) := fun r hr => by
          unfold slices_symMergeC_F.loop5
          try simp -implicitDefEqProofs only [reserve0, sQ_a, sQ_len]
          rw [decide_eq_true (show (i : Int) < (j : Int) by omega), cond_true, mid_eq (lo := a) (hi := b) (by omega), mid_eq (lo := i) (hi := j) (by omega), i64q (z := (((a + b) / 2 : Nat) : Int) + (m : Int)) (m := (a + b) / 2 + m) (by omega) (by omega), i64q (z := (((a + b) / 2 + m : Nat) : Int) - 1) (m := (a + b) / 2 + m - 1) (by omega) (by omega),
            i64q (z := (((a + b) / 2 + m - 1 : Nat) : Int) - (((i + j) / 2 : Nat) : Int)) (m := p) (by omega) (by omega), guardO_pos (by omega), Int.toNat_natCast, Int.toNat_natCast, rdQ hid hn hpN]
          try simp -implicitDefEqProofs only [Option.bind_some, low, rowSV_len, rowSV_cap, rowSV_tail]
          rw [guardO_pos (by omega), rdQ hid hn hm]
          try simp -implicitDefEqProofs only [Option.bind_some, low, rowSV_len, rowSV_cap, rowSV_tail]
          rw [hc _ _ xs (hD _ (gq_mem (by omega))) (hD _ (gq_mem (by omega))) hn]
          try simp -implicitDefEqProofs only [packQ, Option.bind_some]
          rw [hr]
          cases r
          · simp -implicitDefEqProofs only [Bool.not_false, cond_true, Option.bind_some]
            rw [i64_suc (by omega)]
          · rfl
        cases hr : decide (c (gq xs p) (gq xs ((i + j) / 2)) < 0)
        · exact ⟨_, base _ hr, ⟨(i + j) / 2 + 1, j, rfl, by omega, by omega, h3⟩, by simp only [Bool.not_false, cond_true, Int.toNat_natCast]; omega⟩
        · exact ⟨_, base _ hr, ⟨i, (i + j) / 2, rfl, h1, by omega, by omega⟩, by simp only [Bool.not_true, cond_false, Int.toNat_natCast]; omega⟩
      · right
        refine ⟨(.ex0 (i : Int), hQ sl id e xs), ?_, i, rfl, h1, by omega⟩
        unfold slices_symMergeC_F.loop5
        try simp -implicitDefEqProofs only []
        rw [decide_eq_false (by omega), cond_false]) FUEL (((lo : Int), (hi : Int)), hQ sl id e xs) ⟨lo, hi, rfl, Nat.le_refl _, hlo, Nat.le_refl _⟩ (fuel_gt (by simp only [Int.toNat_natCast]; omega))
  exact ⟨i, hq, h1, h2⟩
end sym
section sym
variable {T : Table} {v : V} {sl : List Slot} {id e N : Nat} {D : Fct → Prop} {c : Fct → Fct → Int}
theorem sym_step (hid : id < sl.length) (hN : N ≤ 2 ^ 20) (hc : CmpQ T v sl id e N D c) {W : Nat} {rec : SV → Int → Int → Int → V → H → Option (Unit × H)}
    (hrec : ∀ (a m b : Nat) (ys : List Fct), ys.length = N → (∀ x ∈ ys, D x) → a < m → m < b → b ≤ N → b - a ≤ W → ∃ zs : List Fct, zs.Perm ys ∧ rec (sQ id N N N true) (a : Int) (m : Int) (b : Int) v (hQ sl id e ys) = some ((), hQ sl id e zs))
    {a m b : Nat} {xs : List Fct} (hn : xs.length = N) (hD : ∀ x ∈ xs, D x) (h1 : a < m) (h2 : m < b) (hb : b ≤ N) (hW : b - a ≤ 2 * W) :
    ∃ zs : List Fct, zs.Perm xs ∧ slices_symMergeC_F.step T rec (sQ id N N N true) (a : Int) (m : Int) (b : Int) v (hQ sl id e xs) = some ((), hQ sl id e zs) := by
  unfold slices_symMergeC_F.step
  rw [i64q (z := (m : Int) - (a : Int)) (m := m - a) (by omega) (by omega), i64q (z := (b : Int) - (m : Int)) (m := b - m) (by omega) (by omega)]
  by_cases c1 : ((m - a : Nat) : Int) = 1
  · rw [decide_eq_true c1, cond_true]
    obtain ⟨i, e1, i1, i2⟩ := sym1_ok hid hN hc hn hD (a := a) (lo := m) (hi := b) (by omega) (by omega) hb
    obtain ⟨ys, hy, e2⟩ := sym2_ok (T := T) (e := e) hid hN hn (a := a) (i := i) (by omega) (by omega)
    refine ⟨ys, hy, ?_⟩
    rw [e1, Option.bind_some]
    simp only
    rw [e2]
    rfl
  rw [decide_eq_false c1, cond_false]
  by_cases c2 : ((b - m : Nat) : Int) = 1
  · rw [decide_eq_true c2, cond_true]
    obtain ⟨i, e1, i1, i2⟩ := sym3_ok hid hN hc hn hD (a := m) (lo := a) (hi := m) (by omega) (by omega) (by omega)
    obtain ⟨ys, hy, e2⟩ := sym4_ok (T := T) (e := e) hid hN hn (m := m) (i := i) (by omega) (by omega)
    refine ⟨ys, hy, ?_⟩
    rw [e1, Option.bind_some]
    simp only
    rw [e2]
    rfl
  rw [decide_eq_false c2, cond_false]
  have hmid := mid_eq (lo := a) (hi := b) (by omega)
  obtain ⟨mid, hm⟩ : ∃ mid, mid = (a + b) / 2 := ⟨_, rfl⟩
  rw [← hm] at hmid
  rw [hmid]
  have hn1 : IntKind.wrap .i64 ((mid : Int) + (m : Int)) = ((mid + m : Nat) : Int) := i64q (by omega) (by omega)
  rw [hn1]
  obtain ⟨lo, hi, hst, g1, g2, g3, g4, g5, g6⟩ : ∃ lo hi : Nat, (bif decide ((mid : Int) < (m : Int)) then some (.next (IntKind.wrap .i64 (((mid + m : Nat) : Int) - (b : Int)), (mid : Int)), hQ sl id e xs) else some (.next ((a : Int), (m : Int)), hQ sl id e xs) : Option (Flow (Int × Int) Unit × H)) = some (.next ((lo : Int), (hi : Int)), hQ sl id e xs) ∧ lo ≤ hi ∧ hi ≤ mid ∧ hi ≤ m ∧ a ≤ lo ∧ mid + m ≤ N + lo ∧ mid + m ≤ b + lo := by
    by_cases hlt : mid < m
    · refine ⟨mid + m - b, mid, ?_, by omega, by omega, by omega, by omega, by omega, by omega⟩
      rw [decide_eq_true (by omega), cond_true, i64q (z := ((mid + m : Nat) : Int) - (b : Int)) (m := mid + m - b) (by omega) (by omega)]
    · refine ⟨a, m, ?_, by omega, by omega, by omega, by omega, by omega, by omega⟩
      rw [decide_eq_false (by omega), cond_false]
  rw [hst, Option.bind_some]
  simp only
  obtain ⟨s, e5, s1, s2⟩ := sym5_ok hid hN hc hn hD (a := a) (m := m) (b := b) (lo := lo) (hi := hi) (by omega) g1 (by omega) (by omega) (by omega) (by omega)
  rw [e5, Option.bind_some]
  simp only
  have hen : IntKind.wrap .i64 (((mid + m : Nat) : Int) - (s : Int)) = ((mid + m - s : Nat) : Int) := i64q (by omega) (by omega)
  rw [hen]
  obtain ⟨en, hen'⟩ : ∃ en, en = mid + m - s := ⟨_, rfl⟩
  rw [← hen']
  have rot : ∃ ys : List Fct, ys.Perm xs ∧ ∀ {R : Type} (Z : Flow Unit Unit × H → Option R), ((bif decide ((s : Int) < (m : Int)) then some (decide ((m : Int) < (en : Int)), hQ sl id e xs) else some (false, hQ sl id e xs)).bind fun (p : Bool × H) =>
      ((bif p.1 then ((slices_rotateC_F (slices_symMergeC_F.tb T) (sQ id N N N true) (s : Int) (m : Int) (en : Int) v p.2).bind fun (q : Unit × H) => (some (.next (), q.2))) else (some (.next (), p.2)) : Option (Flow Unit Unit × H)).bind Z)) = Z (.next (), hQ sl id e ys) := by
    by_cases k1 : (s : Int) < (m : Int) ∧ (m : Int) < (en : Int)
    · obtain ⟨ys, hy, er⟩ := rot_ok (T := slices_symMergeC_F.tb T) (v := v) (e := e) hid hN hn (a := s) (m := m) (b := en) (by omega) (by omega) (by omega)
      refine ⟨ys, hy, fun {R} Z => ?_⟩
      rw [decide_eq_true k1.1, decide_eq_true k1.2, cond_true, Option.bind_some]
      simp only [cond_true]
      rw [er]
      rfl
    · refine ⟨xs, List.Perm.refl _, fun {R} Z => ?_⟩
      by_cases k2 : (s : Int) < (m : Int)
      · rw [decide_eq_true k2, decide_eq_false (fun h => k1 ⟨k2, h⟩)]
        rfl
      · rw [decide_eq_false k2]
        rfl
  obtain ⟨ys, hy, erot⟩ := rot
  have hyl : ys.length = N := by rw [hy.length_eq, hn]
  have hyD : ∀ x ∈ ys, D x := fun x hx => hD x (hy.mem_iff.1 hx)
  have r1 : ∃ zs : List Fct, zs.Perm ys ∧ ∀ {R : Type} (Z : Flow Unit Unit × H → Option R), ((bif decide ((a : Int) < (s : Int)) then some (decide ((s : Int) < (mid : Int)), hQ sl id e ys) else some (false, hQ sl id e ys)).bind fun (p : Bool × H) =>
      ((bif p.1 then ((rec (sQ id N N N true) (a : Int) (s : Int) (mid : Int) v p.2).bind fun (q : Unit × H) => (some (.next (), q.2))) else (some (.next (), p.2)) : Option (Flow Unit Unit × H)).bind Z)) = Z (.next (), hQ sl id e zs) := by
    by_cases k1 : (a : Int) < (s : Int) ∧ (s : Int) < (mid : Int)
    · obtain ⟨zs, hz, er⟩ := hrec a s mid ys hyl hyD (by omega) (by omega) (by omega) (by omega)
      refine ⟨zs, hz, fun {R} Z => ?_⟩
      rw [decide_eq_true k1.1, decide_eq_true k1.2, cond_true, Option.bind_some]
      simp only [cond_true]
      rw [er]
      rfl
    · refine ⟨ys, List.Perm.refl _, fun {R} Z => ?_⟩
      by_cases k2 : (a : Int) < (s : Int)
      · rw [decide_eq_true k2, decide_eq_false (fun h => k1 ⟨k2, h⟩)]
        rfl
      · rw [decide_eq_false k2]
        rfl
  obtain ⟨zs, hz, er1⟩ := r1
  have hzl : zs.length = N := by rw [hz.length_eq, hyl]
  have hzD : ∀ x ∈ zs, D x := fun x hx => hyD x (hz.mem_iff.1 hx)
  have r2 : ∃ ws : List Fct, ws.Perm zs ∧ ∀ {R : Type} (Z : Flow Unit Unit × H → Option R), ((bif decide ((mid : Int) < (en : Int)) then some (decide ((en : Int) < (b : Int)), hQ sl id e zs) else some (false, hQ sl id e zs)).bind fun (p : Bool × H) =>
      ((bif p.1 then ((rec (sQ id N N N true) (mid : Int) (en : Int) (b : Int) v p.2).bind fun (q : Unit × H) => (some (.next (), q.2))) else (some (.next (), p.2)) : Option (Flow Unit Unit × H)).bind Z)) = Z (.next (), hQ sl id e ws) := by
    by_cases k1 : (mid : Int) < (en : Int) ∧ (en : Int) < (b : Int)
    · obtain ⟨ws, hw, er⟩ := hrec mid en b zs hzl hzD (by omega) (by omega) hb (by omega)
      refine ⟨ws, hw, fun {R} Z => ?_⟩
      rw [decide_eq_true k1.1, decide_eq_true k1.2, cond_true, Option.bind_some]
      simp only [cond_true]
      rw [er]
      rfl
    · refine ⟨zs, List.Perm.refl _, fun {R} Z => ?_⟩
      by_cases k2 : (mid : Int) < (en : Int)
      · rw [decide_eq_true k2, decide_eq_false (fun h => k1 ⟨k2, h⟩)]
        rfl
      · rw [decide_eq_false k2]
        rfl
  obtain ⟨ws, hw, er2⟩ := r2
  refine ⟨ws, hw.trans (hz.trans hy), ?_⟩
  rw [erot]
  simp only
  rw [er1]
  simp only
  rw [er2]
theorem sym_ok (hid : id < sl.length) (hN : N ≤ 2 ^ 20) (hc : CmpQ T v sl id e N D c) : ∀ (k : Nat) {a m b : Nat} {xs : List Fct}, xs.length = N → (∀ x ∈ xs, D x) → a < m → m < b → b ≤ N → b - a ≤ 2 ^ k →
    ∃ zs : List Fct, zs.Perm xs ∧ slices_symMergeC_F.lev T k (sQ id N N N true) (a : Int) (m : Int) (b : Int) v (hQ sl id e xs) = some ((), hQ sl id e zs)
  | 0, a, m, b, xs, hn, hD, h1, h2, hb, hW => by simp only [Nat.pow_zero] at hW; omega
  | k + 1, a, m, b, xs, hn, hD, h1, h2, hb, hW => sym_step (W := 2 ^ k) hid hN hc (fun a m b ys g1 g2 g3 g4 g5 g6 => sym_ok hid hN hc k g1 g2 g3 g4 g5 g6) hn hD h1 h2 hb (by rw [Nat.pow_succ] at hW; omega)
theorem symT_ok (hid : id < sl.length) (hN : N ≤ 2 ^ 20) (hc : CmpQ T v sl id e N D c) {a m b : Nat} {xs : List Fct} (hn : xs.length = N) (hD : ∀ x ∈ xs, D x) (h1 : a < m) (h2 : m < b) (hb : b ≤ N) :
    ∃ zs : List Fct, zs.Perm xs ∧ slices_symMergeC_F T (sQ id N N N true) (a : Int) (m : Int) (b : Int) v (hQ sl id e xs) = some ((), hQ sl id e zs) :=
  sym_ok hid hN hc 40 hn hD h1 h2 hb (Nat.le_trans (show b - a ≤ 2 ^ 20 by omega) (Nat.pow_le_pow_right (by omega) (by omega)))
end sym
section st
variable {T : Table} {sl : List Slot} {id e N : Nat}
theorem ins_any (hid : id < sl.length) (hN : N ≤ 2 ^ 20) (hT : T.dy.fn 33 = fact_CompareP.e) {xs : List Fct} (hn : xs.length = N) (hok : ∀ x ∈ xs, okF x = true) {a b : Nat} (hab : a ≤ b) (hb : b ≤ N) :
    ∃ ys : List Fct, ys.Perm xs ∧ slices_insertionSortC_F T (sQ id N N N true) (a : Int) (b : Int) (.func 33 []) (hQ sl id e xs) = some ((), hQ sl id e ys) := by
  obtain ⟨ys, h1, h2, h3, _⟩ := insQ_ok (T := T) (v := .func 33 []) (sl := sl) (id := id) (e := e) (N := N) (n := N) (cp := N) (t := true) (D := fun x => okF x = true) (c := cmpF) (lt := fun a b => cmpF a b ≤ 0) hid (by omega)
    (cmpQ_ok (fun x y R k h hx => call33 (T := T) hT x y k h) fun x hx => hx) (fun x y z => cmpF_to.le_trans) hn (Nat.le_refl _) (a := a) (b := b) hab hb
    (fun k _ hk => hok _ (by rw [gq_eq (by omega)]; exact List.getElem_mem _)) (fun p q _ hpq hq => ⟨fun h => Int.le_of_lt h, fun h => by have := cmpF_to.anti (gq xs q) (gq xs p); have := cmpF_to.anti (gq xs p) (gq xs q); omega⟩)
  exact ⟨ys, h3, h1⟩
theorem stable_any (hid : id < sl.length) (hN : N ≤ 2 ^ 20) (hT : T.dy.fn 33 = fact_CompareP.e) {xs : List Fct} (hn : xs.length = N) (hok : ∀ x ∈ xs, okF x = true) :
    ∃ ys : List Fct, ys.Perm xs ∧ slices_stableC_F T (sQ id N N N true) (N : Int) (.func 33 []) (hQ sl id e xs) = some ((), hQ sl id e ys) := by
  have hT' : (slices_stableC_F.tb T).dy.fn 33 = fact_CompareP.e := hT
  have hc : CmpQ (slices_stableC_F.tb T) (.func 33 []) sl id e N (fun x => okF x = true) cmpF := cmpQ_ok (fun x y R k h hx => call33 hT' x y k h) fun x hx => hx
  obtain ⟨q, hq, a, ys, rfl, haN, hp⟩ := iter_inv (f := slices_stableC_F.loop1 T (sQ id N N N true) (N : Int) (.func 33 []))
    (Inv := fun st => ∃ (a : Nat) (ys : List Fct), st = (((a : Int), ((a + 20 : Nat) : Int)), hQ sl id e ys) ∧ a ≤ N ∧ ys.Perm xs)
    (Post := fun q => ∃ (a : Nat) (ys : List Fct), q = (.ex0 (a : Int), hQ sl id e ys) ∧ a ≤ N ∧ ys.Perm xs) (fun st => N - st.1.1.toNat) (fun st hI => by
      obtain ⟨a, ys, rfl, haN, hp⟩ := hI
      have hl : ys.length = N := by rw [hp.length_eq, hn]
      have ho : ∀ x ∈ ys, okF x = true := fun x hx => hok x (hp.mem_iff.1 hx)
      by_cases hlt : a + 20 ≤ N
      · left
        obtain ⟨zs, hz, e1⟩ := ins_any (T := slices_stableC_F.tb T) (e := e) hid hN hT' hl ho (a := a) (b := a + 20) (by omega) hlt
        refine ⟨((((a + 20 : Nat) : Int), ((a + 20 + 20 : Nat) : Int)), hQ sl id e zs), ?_, ⟨a + 20, zs, rfl, hlt, hz.trans hp⟩, by simp only [Int.toNat_natCast]; omega⟩
        unfold slices_stableC_F.loop1
        try simp -implicitDefEqProofs only []
        rw [decide_eq_true (by omega), cond_true, e1]
        try simp -implicitDefEqProofs only [Option.bind_some]
        rw [i64q (z := ((a + 20 : Nat) : Int) + 20) (m := a + 20 + 20) (by omega) (by omega)]
      · right
        refine ⟨(.ex0 (a : Int), hQ sl id e ys), ?_, a, ys, rfl, haN, hp⟩
        unfold slices_stableC_F.loop1
        try simp -implicitDefEqProofs only []
        rw [decide_eq_false (by omega), cond_false]) FUEL ((0, 20), hQ sl id e xs) ⟨0, xs, rfl, Nat.zero_le _, List.Perm.refl _⟩ (fuel_gt (by simp only [Int.toNat_zero]; omega))
  have hl : ys.length = N := by rw [hp.length_eq, hn]
  have ho : ∀ x ∈ ys, okF x = true := fun x hx => hok x (hp.mem_iff.1 hx)
  obtain ⟨zs, hz, e1⟩ := ins_any (T := slices_stableC_F.tb T) (e := e) hid hN hT' hl ho (a := a) (b := N) haN (Nat.le_refl _)
  have inner : ∀ (bs : Nat) (ys : List Fct), 20 ≤ bs → bs < N → ys.Perm xs → ∃ (a : Nat) (zs : List Fct), iter FUEL (slices_stableC_F.loop2 T (sQ id N N N true) (N : Int) (.func 33 []) (bs : Int)) ((0, ((2 * bs : Nat) : Int)), hQ sl id e ys) = some (.ex0 (a : Int), hQ sl id e zs) ∧ a ≤ N ∧ zs.Perm xs := fun bs ys hbs hbN hp => by
    obtain ⟨q, hq, a, zs, rfl, haN, hz⟩ := iter_inv (f := slices_stableC_F.loop2 T (sQ id N N N true) (N : Int) (.func 33 []) (bs : Int))
      (Inv := fun st => ∃ (a : Nat) (ys : List Fct), st = (((a : Int), ((a + 2 * bs : Nat) : Int)), hQ sl id e ys) ∧ a ≤ N ∧ ys.Perm xs)
      (Post := fun q => ∃ (a : Nat) (ys : List Fct), q = (.ex0 (a : Int), hQ sl id e ys) ∧ a ≤ N ∧ ys.Perm xs) (fun st => N - st.1.1.toNat) (fun st hI => by
        obtain ⟨a, ys, rfl, haN, hp⟩ := hI
        have hl : ys.length = N := by rw [hp.length_eq, hn]
        have ho : ∀ x ∈ ys, okF x = true := fun x hx => hok x (hp.mem_iff.1 hx)
        by_cases hlt : a + 2 * bs ≤ N
        · left
          obtain ⟨zs, hz, e1⟩ := symT_ok hid hN hc hl ho (a := a) (m := a + bs) (b := a + 2 * bs) (by omega) (by omega) hlt
          refine ⟨((((a + 2 * bs : Nat) : Int), ((a + 2 * bs + 2 * bs : Nat) : Int)), hQ sl id e zs), ?_, ⟨a + 2 * bs, zs, rfl, hlt, hz.trans hp⟩, by simp only [Int.toNat_natCast]; omega⟩
          unfold slices_stableC_F.loop2
          try simp -implicitDefEqProofs only []
          rw [decide_eq_true (by omega), cond_true, i64q (z := (a : Int) + (bs : Int)) (m := a + bs) (by omega) (by omega), e1]
          try simp -implicitDefEqProofs only [Option.bind_some]
          rw [i64q (z := 2 * (bs : Int)) (m := 2 * bs) (by omega) (by omega), i64q (z := ((a + 2 * bs : Nat) : Int) + ((2 * bs : Nat) : Int)) (m := a + 2 * bs + 2 * bs) (by omega) (by omega)]
        · right
          refine ⟨(.ex0 (a : Int), hQ sl id e ys), ?_, a, ys, rfl, haN, hp⟩
          unfold slices_stableC_F.loop2
          try simp -implicitDefEqProofs only []
          rw [decide_eq_false (by omega), cond_false]) FUEL ((0, ((2 * bs : Nat) : Int)), hQ sl id e ys) ⟨0, ys, by rw [Nat.zero_add]; rfl, Nat.zero_le _, hp⟩ (fuel_gt (by simp only [Int.toNat_zero]; omega))
    exact ⟨a, zs, hq, haN, hz⟩
  obtain ⟨q, hq3, ws, rfl, hw⟩ := iter_inv (f := slices_stableC_F.loop3 T (sQ id N N N true) (N : Int) (.func 33 []))
    (Inv := fun st => ∃ (bs : Nat) (ys : List Fct), st = ((bs : Int), hQ sl id e ys) ∧ 20 ≤ bs ∧ bs ≤ 2 ^ 22 ∧ ys.Perm xs)
    (Post := fun q => ∃ ys : List Fct, q = (.ex0 (), hQ sl id e ys) ∧ ys.Perm xs) (fun st => N - st.1.toNat) (fun st hI => by
      obtain ⟨bs, ys, rfl, hbs, hbig, hp⟩ := hI
      by_cases hlt : bs < N
      · left
        obtain ⟨a, zs, e2, haN, hz⟩ := inner bs ys hbs hlt hp
        have hl : zs.length = N := by rw [hz.length_eq, hn]
        have ho : ∀ x ∈ zs, okF x = true := fun x hx => hok x (hz.mem_iff.1 hx)
        obtain ⟨ws, hw, e3⟩ : ∃ ws : List Fct, ws.Perm xs ∧ (bif decide (((a + bs : Nat) : Int) < (N : Int)) then ((slices_symMergeC_F (slices_stableC_F.tb T) (sQ id N N N true) (a : Int) ((a + bs : Nat) : Int) (N : Int) (.func 33 []) (hQ sl id e zs)).bind fun (p : Unit × H) => (some (.next (), p.2))) else (some (.next (), hQ sl id e zs)) : Option (Flow Unit Unit × H)) = some (.next (), hQ sl id e ws) := by
          by_cases h : a + bs < N
          · obtain ⟨ws, hw, e1⟩ := symT_ok hid hN hc hl ho (a := a) (m := a + bs) (b := N) (by omega) h (Nat.le_refl _)
            refine ⟨ws, hw.trans hz, ?_⟩
            rw [decide_eq_true (by omega), cond_true, e1]
            rfl
          · exact ⟨zs, hz, by rw [decide_eq_false (by omega), cond_false]⟩
        refine ⟨(((bs * 2 : Nat) : Int), hQ sl id e ws), ?_, ⟨bs * 2, ws, rfl, by omega, by omega, hw⟩, by simp only [Int.toNat_natCast]; omega⟩
        unfold slices_stableC_F.loop3
        try simp -implicitDefEqProofs only []
        rw [decide_eq_true (by omega), cond_true, i64q (z := 2 * (bs : Int)) (m := 2 * bs) (by omega) (by omega), e2, Option.bind_some]
        simp only
        rw [i64q (z := (a : Int) + (bs : Int)) (m := a + bs) (by omega) (by omega), e3, Option.bind_some]
        simp only
        rw [i64q (z := (bs : Int) * 2) (m := bs * 2) (by omega) (by omega)]
      · right
        refine ⟨(.ex0 (), hQ sl id e ys), ?_, ys, rfl, hp⟩
        unfold slices_stableC_F.loop3
        try simp -implicitDefEqProofs only []
        rw [decide_eq_false (by omega), cond_false]) FUEL (20, hQ sl id e zs) ⟨20, zs, rfl, Nat.le_refl _, by omega, hz.trans hp⟩ (fuel_gt (by
          have : Int.toNat 20 = 20 := rfl
          simp only [this]; omega))
  refine ⟨ws, hw, ?_⟩
  unfold slices_stableC_F
  rw [hq, Option.bind_some]
  simp only
  rw [e1, Option.bind_some]
  simp only
  rw [hq3]
  rfl
end st
theorem set_ends (l : List Fct) (hl : l.length ≤ 2 ^ 20) (hs : ∀ x ∈ l, smallF x) (sl0 : List Slot) : ∃ r, arrival_set (rowSV false FC l) (hL sl0) = some r := by
  by_cases h19 : l.length ≤ 19
  · obtain ⟨s, sl, h, _⟩ := set_at (a := rowSV false FC l) l h19 hs sl0 rfl fun i hi sl _ => ⟨false, src_row hi sl⟩
    exact ⟨_, h⟩
  obtain ⟨sl, s, o, h1, hacc, _, _⟩ := copies_at (a := rowSV false FC l) l hl hs sl0 rfl fun i hi sl _ => ⟨false, src_row hi sl⟩
  cases o with
  | none =>
    obtain ⟨rfl, _⟩ := hacc
    simp at h19
  | some id =>
    obtain ⟨h2, rfl, h4⟩ := hacc
    have hid := (List.getElem?_eq_some_iff.1 h4).1
    obtain ⟨ys, hy, e1⟩ := stable_any (T := slices_SortStableFunc_F2.tb fact_Sort.tb) (sl := sl) (id := id) (e := 6) (N := l.length) (xs := l) hid (by omega) rfl rfl (fun x hx => small_ok (hs x hx))
    rw [hQ_self (e := 6) h4] at e1
    have e1' : slices_stableC_F (slices_SortStableFunc_F2.tb fact_Sort.tb) (ownSV id FC l.length) (l.length : Int) (.func 33 []) (hL sl) = some ((), hQ sl id 6 ys) := e1
    have hyl : ys.length = l.length := hy.length_eq
    obtain ⟨s', sl', rest, k1, _⟩ := Compact_ok (T := arrival_set.tb) (sl := sl) (id := id) (N := l.length) (xs := ys) hid rfl hyl (by omega) (by omega) (fun x hx => small_ok (hs x (hy.mem_iff.1 hx)))
    have k1' : slices_CompactFunc_F2 arrival_set.tb (ownSV id FC l.length) (.func 70 []) (hQ sl id 6 ys) = some (s', hL sl') := k1
    refine ⟨(s', hL sl'), ?_⟩
    unfold arrival_set fact_Sort
    rw [h1, Option.bind_some]
    simp only
    unfold slices_SortStableFunc_F2
    have hlen : (((ownSV id FC l.length).len : Nat) : Int) = (l.length : Int) := rfl
    rw [hlen, e1']
    simp only [Option.bind_some]
    rw [k1']
    rfl
theorem rwithout1 {xs ys : List Fct} (hy : ys.length ≤ 2 ^ 20) {i : Nat} (hi : i < xs.length) (hxl : xs.length ≤ 2 ^ 20) (hok : ∀ x ∈ xs, okF x = true) (h : H) :
    iter FUEL (r54_without.loop1 (rowSV true FC xs) (rowSV true FC ys) (i : Int)) ((false, 0), h) = some (.ex0 (knownF ys xs[i]), h) := by
  have hxi : xs[i]? = some xs[i] := List.getElem?_eq_getElem hi
  refine iter_from (fun j => (((ys.take j).any fun g => decide (cmpF xs[i] g = 0), (j : Int)), h)) rfl ys.length FUEL (fun j hj => ?_) ?_ (fuel_gt (by omega))
  · have hyj : ys[j]? = some ys[j] := List.getElem?_eq_getElem hj
    have htk : (ys.take (j + 1)).any (fun g => decide (cmpF xs[i] g = 0)) = ((ys.take j).any (fun g => decide (cmpF xs[i] g = 0)) || decide (cmpF xs[i] ys[j] = 0)) := by
      rw [List.take_add_one, hyj, List.any_append]
      simp
    unfold r54_without.loop1
    try simp -implicitDefEqProofs only [rowSV_len, reserve0, Int.toNat_natCast]
    rw [decide_eq_true (by omega), cond_true, htk]
    cases hb : (ys.take j).any fun g => decide (cmpF xs[i] g = 0)
    · simp -implicitDefEqProofs only [Bool.not_false, cond_true]
      rw [guardO_pos (by omega), rd_fact, hxi]
      try simp -implicitDefEqProofs only [Option.bind_some, Option.map_some, low]
      rw [guardO_pos (by omega), rd_fact, hyj]
      try simp -implicitDefEqProofs only [Option.bind_some, Option.map_some, low, row_ints', row_texts']
      have C : r53_CompareP (xs[i].1, xs[i].2.1, xs[i].2.2.1, xs[i].2.2.2.1, xs[i].2.2.2.2.1, xs[i].2.2.2.2.2) (ys[j].1, ys[j].2.1, ys[j].2.2.1, ys[j].2.2.2.1, ys[j].2.2.2.2.1, ys[j].2.2.2.2.2) = some (cmpF xs[i] ys[j]) := RCompare_ok xs[i] ys[j] (hok _ (List.getElem_mem _))
      rw [C]
      try simp -implicitDefEqProofs only [Option.bind_some]
      rw [i64_suc (by omega)]
      rfl
    · simp -implicitDefEqProofs only [Bool.not_true, cond_false, Option.bind_some]
      rw [i64_suc (by omega)]
      rfl
  · unfold r54_without.loop1
    try simp -implicitDefEqProofs only [rowSV_len]
    rw [decide_eq_false (by omega), cond_false, List.take_length]
    rfl
theorem rwithout_at {xs ys : List Fct} (hy : ys.length ≤ 2 ^ 20) (hx : xs.length ≤ 2 ^ 20) (hok : ∀ x ∈ xs, okF x = true) (sl0 : List Slot) :
    ∃ s sl o, r54_without (rowSV true FC xs) (rowSV true FC ys) (hL sl0) = some (s, hL sl) ∧ Acc sl FC (withoutF xs ys) s o ∧ (∀ j, j < sl0.length → sl[j]? = sl0[j]?) ∧ (∀ id, o = some id → sl0.length ≤ id) := by
  obtain ⟨q, hq, s, sl, o, rfl, acc, old, ho⟩ := iter_inv (f := r54_without.loop2 (rowSV true FC xs) (rowSV true FC ys))
    (Inv := fun st => ∃ (i : Nat) (s : SV) (sl : List Slot) (o : Option Nat), st = ((s, (i : Int)), hL sl) ∧ i ≤ xs.length ∧ Acc sl FC (withoutF (xs.take i) ys) s o ∧ (∀ j, j < sl0.length → sl[j]? = sl0[j]?) ∧ (∀ id, o = some id → sl0.length ≤ id) ∧ sl0.length ≤ sl.length)
    (Post := fun q => ∃ (s : SV) (sl : List Slot) (o : Option Nat), q = (.ex0 s, hL sl) ∧ Acc sl FC (withoutF xs ys) s o ∧ (∀ j, j < sl0.length → sl[j]? = sl0[j]?) ∧ (∀ id, o = some id → sl0.length ≤ id))
    (fun st => xs.length - st.1.2.toNat) (fun st hi => by
      obtain ⟨i, s, sl, o, rfl, hil, acc, old, ho, hsl⟩ := hi
      by_cases hlt : i < xs.length
      · left
        have hxi : xs[i]? = some xs[i] := List.getElem?_eq_getElem hlt
        have L1 := rwithout1 hy hlt hx hok (hL sl)
        have tk : withoutF (xs.take (i + 1)) ys = withoutF (xs.take i) ys ++ (bif !knownF ys xs[i] then [xs[i]] else []) := by
          unfold withoutF
          rw [List.take_add_one, hxi, Option.toList_some, List.filter_append]
          cases h : knownF ys xs[i] <;> simp [h]
        have hwl : (withoutF (xs.take i) ys).length ≤ i := by
          have := List.length_filter_le (fun x => !knownF ys x) (xs.take i)
          rw [List.length_take] at this
          unfold withoutF
          omega
        cases hk : knownF ys xs[i]
        · obtain ⟨s', sl', id', k1, k2, k3, k4, k5⟩ := acc.append (w := 6) (b := 80) (x := xs[i]) (vs := LT.lo true FC xs[i]) rfl (by decide) (by omega) (by decide) rfl
          rw [hk] at L1
          have k1' : appendS (hL sl) none 6 80 s [.int .i64 xs[i].1, .int .i64 xs[i].2.1, .int .i64 xs[i].2.2.1, .int .i64 xs[i].2.2.2.1, .slice (rowSV true j1 xs[i].2.2.2.2.1).a xs[i].2.2.2.2.1.length xs[i].2.2.2.2.1.length true, .slice (rowSV true t1 xs[i].2.2.2.2.2).a xs[i].2.2.2.2.2.length xs[i].2.2.2.2.2.length true] 1 = some (s', hL sl') := k1
          refine ⟨((s', ((i + 1 : Nat) : Int)), hL sl'), ?_, ⟨i + 1, s', sl', some id', rfl, by omega, by rw [tk, hk]; exact k2, fun j hj => ?_, fun id e => ?_, by omega⟩, by simp only [Int.toNat_natCast]; omega⟩
          · unfold r54_without.loop2
            try simp -implicitDefEqProofs only [rowSV_len, Int.toNat_natCast]
            rw [decide_eq_true (by omega), cond_true, L1, Option.bind_some]
            simp only [Bool.not_false, cond_true]
            rw [guardO_pos (by omega), rd_fact, hxi]
            try simp -implicitDefEqProofs only [Option.bind_some, Option.map_some, low, rowSV_len, rowSV_cap, rowSV_tail]
            rw [k1', Option.bind_some]
            try simp -implicitDefEqProofs only [Option.bind_some]
            rw [i64_suc (by omega)]
          · rw [k5 j (fun e => by have := ho j e; omega) (by omega), old j hj]
          · cases e
            rcases k3 with h | ⟨_, h⟩
            · exact ho _ h
            · rw [h]; omega
        · rw [hk] at L1
          refine ⟨((s, ((i + 1 : Nat) : Int)), hL sl), ?_, ⟨i + 1, s, sl, o, rfl, by omega, by rw [tk, hk]; simpa using acc, old, ho, hsl⟩, by simp only [Int.toNat_natCast]; omega⟩
          unfold r54_without.loop2
          try simp -implicitDefEqProofs only [rowSV_len, Int.toNat_natCast]
          rw [decide_eq_true (by omega), cond_true, L1, Option.bind_some]
          simp only [Bool.not_true, cond_false, Option.bind_some]
          rw [i64_suc (by omega)]
      · right
        have : i = xs.length := by omega
        subst this
        refine ⟨(.ex0 s, hL sl), ?_, s, sl, o, rfl, by rw [List.take_length] at acc; exact acc, old, ho⟩
        unfold r54_without.loop2
        try simp -implicitDefEqProofs only [rowSV_len]
        rw [decide_eq_false (by omega), cond_false]) FUEL ((⟨.nil, 0, 0, false⟩, 0), hL sl0) ⟨0, _, sl0, none, rfl, Nat.zero_le _, Acc.nil, fun _ _ => rfl, (fun _ e => by cases e), Nat.le_refl _⟩ (fuel_gt (by simp only [Int.toNat_zero]; omega))
  refine ⟨s, sl, o, ?_, acc, old, ho⟩
  unfold r54_without
  rw [hq]
  rfl
theorem RDiffer_ok (a b : List Fct) (ha : a.length ≤ 2 ^ 11) (hb : b.length ≤ 2 ^ 11) (hsa : ∀ x ∈ a, smallF x) (hsb : ∀ x ∈ b, smallF x) : r54_DifferP a b = some (differF a b) := by
  unfold r54_DifferP r54_Differ differF
  try simp -implicitDefEqProofs only [rowSV_len]
  by_cases h1024 : 1024 < a.length
  · rw [if_pos (.inl h1024), decide_eq_true (by omega)]
    rfl
  rw [decide_eq_false (show ¬ (1024 : Int) < (a.length : Int) by omega)]
  by_cases h1025 : 1024 < b.length
  · rw [if_pos (.inr h1025), decide_eq_true (show (1024 : Int) < (b.length : Int) by omega)]
    rfl
  rw [if_neg (fun h => h.elim h1024 h1025), decide_eq_false (show ¬ (1024 : Int) < (b.length : Int) by omega)]
  try simp -implicitDefEqProofs only [Bool.not_false, cond_true, cond_false, Option.bind_some, row_facts, RcheckL_ok]
  by_cases h1 : checkL a = 0
  case neg =>
    rw [decide_eq_false h1, if_neg (fun h => h1 h.1)]
    rfl
  by_cases h2 : checkL b = 0
  case neg =>
    rw [decide_eq_true h1, decide_eq_false h2, if_neg (fun h => h2 h.2)]
    rfl
  have hoa := onceF_len a
  have hob := onceF_len b
  rw [decide_eq_true h1, decide_eq_true h2, if_pos ⟨h1, h2⟩]
  obtain ⟨s, sl, o, k1, acc, old, ho⟩ := rwithout_at (xs := onceF a) (ys := onceF b) (by omega) (by omega) (once_ok hsa) []
  obtain ⟨s', sl', o', k1', acc', old', ho'⟩ := rwithout_at (xs := onceF b) (ys := onceF a) (by omega) (by omega) (once_ok hsb) sl
  have accF : Acc sl' FC (withoutF (onceF a) (onceF b)) s o := acc.frame fun id e => by subst e; exact old' id acc.lt
  have R : rdRow false (hL sl') FC ⟨s.a, s.len, s.cap, s.tail⟩ = some (withoutF (onceF a) (onceF b)) := accF.read rfl
  have R' : rdRow false (hL sl') FC ⟨s'.a, s'.len, s'.cap, s'.tail⟩ = some (withoutF (onceF b) (onceF a)) := acc'.read rfl
  try simp -implicitDefEqProofs only [Bool.not_true, Bool.not_false, cond_true, cond_false, Option.bind_some, ROnce_ok a ha hsa, ROnce_ok b hb hsb, hL_empty]
  have k1a : r54_without (rowSV true FC (onceF a)) (rowSV true FC (onceF b)) (hL []) = some (s, hL sl) := k1
  have k1b : r54_without (rowSV true FC (onceF b)) (rowSV true FC (onceF a)) (hL sl) = some (s', hL sl') := k1'
  try simp -implicitDefEqProofs only [k1a, k1b, Option.bind_some, evs, reduceIte, rdRes, rdTT, rdTy, rdLT, Res.un, TT.un, Ty.un, LT.un, Leaf.un, Leaf.plain, LT.plain, R, R']
theorem rdRow_ownF {f : Bool} {sl : List Slot} {id e n c : Nat} {t : Bool} {xs : List Fct} (hs : sl[id]? = some (.own (xs.flatMap fun x => LT.lo f FC x) e)) (hn : xs.length = n) : rdRow true (hL sl) FC ⟨.hp id (n * 6) 0, n, c, t⟩ = some xs := by
  subst hn
  by_cases h0 : xs.length = 0
  · have : xs = [] := List.eq_nil_of_length_eq_zero h0
    subst this
    exact rdRow_nil
  · unfold rdRow
    simp only [rdLeaf, if_neg h0]
    have hl := flat_length (f := f) (ls := FC) xs
    have hl6 : (xs.flatMap fun x => LT.lo f FC x).length = xs.length * 6 := hl
    have hrd : (hL sl).rds (.hp id (xs.length * 6) 0) (xs.length * FC.length) = some (xs.flatMap fun x => LT.lo f FC x) := by
      simp only [H.rds, H.from, hL_m, hs, Option.getD_some]
      rw [if_pos hl6, Option.bind_some, List.drop_zero, if_pos ⟨by rw [hl]; exact Nat.le_refl _, by show xs.length * 6 ≠ 0; omega⟩, List.take_of_length_le (by rw [hl]; exact Nat.le_refl _)]
    show (bif true then (hL sl).rds (.hp id (xs.length * 6) 0) (xs.length * FC.length) else none).bind _ = _
    rw [cond_true, hrd, Option.bind_some, chunks_flat]
    have : ∀ (ys : List Fct), mapO (fun c => rdLT true (hL sl) FC c) (ys.map fun x => LT.lo f FC x) = some ys := fun ys => by
      induction ys with
      | nil => rfl
      | cons y ys ih => simp only [List.map_cons, mapO, rdLT_lo (f := f) (lp := true) (by simp) FC y rfl, Option.bind_some, ih]
    exact this xs
theorem once_more {l : List Fct} {f : Fct} : decide (((onceF l).length : Int) < ((onceF (l ++ [f])).length : Int)) = !knownF l f := by
  cases hk : knownF l f with
  | true =>
    have hf := known_iff.1 hk
    have : onceF (l ++ [f]) = onceF l := onceF_same fun x => by
      rw [List.mem_append, List.mem_singleton]
      exact ⟨fun h => h.elim id fun e => e ▸ hf, .inl⟩
    rw [this]
    exact decide_eq_false (by omega)
  | false =>
    have hf : f ∉ onceF l := fun h => by rw [known_iff.2 (onceF_mem.1 h)] at hk; cases hk
    have hp : (onceF (l ++ [f])).Perm (f :: onceF l) := (List.perm_ext_iff_of_nodup (onceF_nodup _) (List.nodup_cons.2 ⟨hf, onceF_nodup _⟩)).2 fun x => by
      rw [onceF_mem, List.mem_append, List.mem_singleton, List.mem_cons, onceF_mem]
      exact Or.comm
    have := hp.length_eq
    rw [List.length_cons] at this
    exact decide_eq_true (by omega)
theorem RAdd_ok (l : List Fct) (f : Fct) (hl : checkL l = 0 → l.length ≤ 16) (hs : ∀ x ∈ l, smallF x) (hf : smallF f) : r54_AddP l f = some (addF l f) := by
  have CF := RCheck_ok f
  have r0 : ∀ t, rdT (.agg FS) (hL (cFt false f :: t)) (.hp 0 6 0) = some (low false f) := fun t => (rds_cFt rfl).1
  have hsm : ∀ x ∈ l ++ [f], smallF x := fun x hx => by
    rcases List.mem_append.1 hx with h | h
    · exact hs x h
    · rw [List.mem_singleton.1 h]; exact hf
  have key : l.length ≤ 16 → ∃ s13 sl13 s19 sl19, appendS (hL [cFt false f, .fresh, .fresh]) (some 1) 6 80 ⟨.lp true [] 0, 0, 0, false⟩ (l.flatMap fun x => LT.lo false FC x) l.length = some (s13, hL (cFt false f :: sl13)) ∧
      appendS (hL (cFt false f :: sl13)) (some 2) 6 80 s13 (LT.lo false FC f) 1 = some (s19, hL (cFt false f :: sl19)) ∧ rdRow true (hL (cFt false f :: sl19)) FC s19 = some (l ++ [f]) := fun h16 => by
    have hcl : (l.flatMap fun x => LT.lo false FC x).length = l.length * 6 := flat_length (f := false) (ls := FC) l
    have hlf : (LT.lo false FC f).length = 6 := rfl
    by_cases h0 : l.length = 0
    · have : l = [] := List.eq_nil_of_length_eq_zero h0
      subst this
      refine ⟨⟨.lp true [] 0, 0, 0, false⟩, [.fresh, .fresh], ⟨.hp 2 (1 * 6) 0, 1, 1, true⟩, [.fresh, .own (LT.lo false FC f) 6], ?_, ?_, ?_⟩
      · simp only [appendS, appendV]
        rw [if_pos (show ([] : List Fct).length = 0 from rfl)]
      · simp only [appendS, appendV, newAt]
        rw [if_neg (by decide), guardO_pos ⟨by unfold roomCells; omega, by decide⟩, if_pos ⟨trivial, trivial, trivial⟩, hL_put (by simp)]
        rfl
      · exact rdRow_ownF (f := false) (e := 6) (xs := [f]) rfl rfl
    · have hfl : ((l ++ [f]).flatMap fun x => LT.lo false FC x) = (l.flatMap fun x => LT.lo false FC x) ++ LT.lo false FC f := by rw [List.flatMap_append]; simp
      refine ⟨⟨.hp 1 (l.length * 6) 0, l.length, l.length, true⟩, [.own (l.flatMap fun x => LT.lo false FC x) 6, .fresh], ⟨.hp 1 ((l.length + 1) * 6) 0, l.length + 1, l.length + 1, true⟩, [.own ((l ++ [f]).flatMap fun x => LT.lo false FC x) 6, .fresh], ?_, ?_, ?_⟩
      · simp only [appendS, appendV, newAt]
        rw [if_neg h0, guardO_pos ⟨by unfold roomCells; omega, by decide⟩, if_pos ⟨trivial, trivial, trivial⟩, hL_put (by simp)]
        rfl
      · simp only [appendS, appendV]
        rw [if_neg (by decide), guardO_pos ⟨by unfold roomCells; omega, by decide⟩]
        have hm : (hL [cFt false f, .own (l.flatMap fun x => LT.lo false FC x) 6, .fresh]).m 1 = .own (l.flatMap fun x => LT.lo false FC x) 6 := rfl
        rw [hm]
        simp only
        rw [if_neg h0, if_neg (by omega), if_pos ⟨trivial, trivial, hcl, trivial, trivial, Nat.le_refl _, by decide⟩, List.take_of_length_le (by rw [hcl]; exact Nat.le_refl _), hL_put (by simp), hfl]
        rfl
      · exact rdRow_ownF (f := false) (e := 6) (xs := l ++ [f]) rfl (by simp)
  obtain ⟨f0, f1, f2, f3, f4, f5⟩ := f
  unfold r54_AddP r54_Add addF
  try simp -implicitDefEqProofs only [evs, reduceIte, rdRes, rdTT, rdTy, rdLT, Res.un, TT.un, Ty.un, LT.un, Leaf.un, Leaf.plain, LT.plain, hL_empty, hL_new, hL_next, List.nil_append, List.length_nil, rowSV_len, rowSV_cap, rowSV_tail, row_facts, Option.bind_some, RcheckL_ok]
  by_cases he : checkL l = 0
  case neg =>
    rw [if_neg he, decide_eq_false he]
    rfl
  have h16 := hl he
  obtain ⟨s13, sl13, s19, sl19, a1, a2, a3⟩ := key h16
  have r0' := r0 []
  simp only [low] at r0'
  rw [if_pos he, decide_eq_true he]
  have r00 : rdT (.agg FS) (hL [.own [.int .i64 f0, .int .i64 f1, .int .i64 f2, .int .i64 f3, .slice (rowSV false [.int .i64] f4).a f4.length f4.length true, .slice (rowSV false [.str] f5).a f5.length f5.length true] 6]) (.hp 0 6 0) = some (f0, f1, f2, f3, rowSV false j1 f4, rowSV false t1 f5) := r0'
  try simp -implicitDefEqProofs only [Bool.not_true, cond_false]
  rw [r00]
  try simp -implicitDefEqProofs only [Option.bind_some, row_ints', row_texts', CF]
  by_cases hc : checkF (f0, f1, f2, f3, f4, f5) = 0
  case neg =>
    rw [if_neg hc, decide_eq_false hc]
    rfl
  rw [if_pos hc, decide_eq_true hc]
  have O1 := ROnce_ok l (by omega) hs
  have O2 := ROnce_ok (l ++ [(f0, f1, f2, f3, f4, f5)]) (by rw [List.length_append, List.length_singleton]; omega) hsm
  have C1 : ∀ h, cellsOf h (.slice (rowSV false FC l).a l.length l.length true) 6 = some (l.length, l.flatMap fun x => LT.lo false FC x) := fun h => row_cells
  have hol := onceF_len (l ++ [(f0, f1, f2, f3, f4, f5)])
  rw [List.length_append, List.length_singleton] at hol
  have G : (apartA (appAddr (.slice (.lp true [] 0) 0 0 false) (.slice (rowSV false FC l).a l.length l.length true) (some 1)) (.hp 0 6 0) = true) = True := by
    cases l <;> exact eq_true rfl
  have r01 : rdT (.agg FS) (hL (cFt false (f0, f1, f2, f3, f4, f5) :: sl13)) (.hp 0 6 0) = some (f0, f1, f2, f3, rowSV false j1 f4, rowSV false t1 f5) := r0 sl13
  try simp -implicitDefEqProofs only [Bool.not_true, cond_false, Option.bind_some, O1, hL_reserve, List.replicate, List.cons_append, List.nil_append, C1, List.length_cons, List.length_nil, Nat.zero_add]
  have a1' : appendS (hL [.own [.int .i64 f0, .int .i64 f1, .int .i64 f2, .int .i64 f3, .slice (rowSV false [.int .i64] f4).a f4.length f4.length true, .slice (rowSV false [.str] f5).a f5.length f5.length true] 6, .fresh, .fresh]) (some 1) 6 80 ⟨.lp true [] 0, 0, 0, false⟩ (l.flatMap fun x => LT.lo false FC x) l.length = _ := a1
  rw [a1', Option.bind_some]
  simp only
  rw [r01, Option.bind_some]
  simp only
  have a2' : appendS (hL (cFt false (f0, f1, f2, f3, f4, f5) :: sl13)) (some (1 + 1)) 6 80 s13 [.int .i64 f0, .int .i64 f1, .int .i64 f2, .int .i64 f3, .slice (rowSV false [.int .i64] f4).a (rowSV false [.int .i64] f4).len (rowSV false [.int .i64] f4).cap (rowSV false [.int .i64] f4).tail, .slice (rowSV false [.str] f5).a (rowSV false [.str] f5).len (rowSV false [.str] f5).cap (rowSV false [.str] f5).tail] 1 = _ := a2
  rw [a2', Option.bind_some]
  simp only
  rw [a3, Option.bind_some, O2, Option.bind_some, guardO_pos (of_eq_true G), decide_eq_false (show ¬ (1024 : Int) < ((onceF (l ++ [(f0, f1, f2, f3, f4, f5)])).length : Int) by omega), cond_false, once_more]
  rw [Option.bind_some]
  show (rdRow false (hL (cFt false (f0, f1, f2, f3, f4, f5) :: sl19)) FC (rowSV true FC (onceF (l ++ [(f0, f1, f2, f3, f4, f5)])))).bind _ = _
  rw [rdRow_res rfl]
  rfl
theorem addF_small {l : List Fct} {f : Fct} (h : checkL l = 0 → l.length ≤ 16) (hs : ∀ x ∈ l, smallF x) (hf : smallF f) : (addF l f).1.length ≤ 1024 ∧ ∀ x ∈ (addF l f).1, smallF x := by
  unfold addF
  split
  · rename_i he
    split
    · have := onceF_len (l ++ [f])
      rw [List.length_append, List.length_singleton] at this
      have := h he
      refine ⟨by simp only; omega, fun x hx => ?_⟩
      rcases List.mem_append.1 (onceF_mem.1 hx) with h | h
      · exact hs x h
      · rw [List.mem_singleton.1 h]; exact hf
    · exact ⟨Nat.zero_le _, fun x hx => by cases hx⟩
  · exact ⟨Nat.zero_le _, fun x hx => by cases hx⟩
theorem differF_small {a b : List Fct} (hsa : ∀ x ∈ a, smallF x) (hsb : ∀ x ∈ b, smallF x) : ((differF a b).1.length ≤ 1024 ∧ ∀ x ∈ (differF a b).1, smallF x) ∧ ((differF a b).2.1.length ≤ 1024 ∧ ∀ x ∈ (differF a b).2.1, smallF x) := by
  unfold differF
  split
  · exact ⟨⟨Nat.zero_le _, fun x hx => by cases hx⟩, ⟨Nat.zero_le _, fun x hx => by cases hx⟩⟩
  · rename_i hb
    have h1 : a.length ≤ 1024 := by omega
    have h2 : b.length ≤ 1024 := by omega
    have hoa := onceF_len a
    have hob := onceF_len b
    split
    · refine ⟨⟨Nat.le_trans (List.length_filter_le _ _) (by omega), fun x hx => once_small hsa x (List.mem_filter.1 hx).1⟩, ⟨Nat.le_trans (List.length_filter_le _ _) (by omega), fun x hx => once_small hsb x (List.mem_filter.1 hx).1⟩⟩
    · exact ⟨⟨Nat.zero_le _, fun x hx => by cases hx⟩, ⟨Nat.zero_le _, fun x hx => by cases hx⟩⟩
theorem ArrivalSets_ok (l m : List Fct) (f : Fct) (hx : TT.ok [.leaf (.row FC), .leaf (.row FC), .agg FC] (l, m, f)) : law_ArrivalSetsP l m f = some true := by
  have okl := okL (l := l) hx.1
  have okm := okL (l := m) hx.2.1
  have Fl := Few_ok l okl.1 okl.2
  have Fm := Few_ok m okm.1 okm.2
  have S := Short_ok f (okT hx.2.2)
  have FSl := few_small (l := l)
  have FSm := few_small (l := m)
  have F19l := few_19 (l := l)
  have F19m := few_19 (l := m)
  have SS := shortF_small (x := f)
  have CY := Copy_ok f
  have A := Add_ok l f
  have RA := RAdd_ok l f
  have AS := addF_small (l := l) (f := f)
  obtain ⟨f0, f1, f2, f3, f4, f5⟩ := f
  unfold law_ArrivalSetsP law_ArrivalSets
  cases hl : fewF l
  · rw [hl] at Fl
    try simp -implicitDefEqProofs only [evs, reduceIte, rdRes, rdTT, rdTy, rdLT, Res.un, TT.un, Ty.un, LT.un, Leaf.un, Leaf.plain, LT.plain, evh, List.replicate, splice, LT.pack, Leaf.pack, Nat.reduceAdd, Nat.reduceSub, Nat.reduceLeDiff, Nat.reduceLT, Nat.reduceEqDiff, LT.lo, Leaf.lo, awake_ok, Option.bind_some, row_facts, Fl, Bool.not_true, Bool.not_false]
  rw [hl] at Fl
  cases hm : fewF m
  · rw [hm] at Fm
    try simp -implicitDefEqProofs only [evs, reduceIte, rdRes, rdTT, rdTy, rdLT, Res.un, TT.un, Ty.un, LT.un, Leaf.un, Leaf.plain, LT.plain, evh, List.replicate, splice, LT.pack, Leaf.pack, Nat.reduceAdd, Nat.reduceSub, Nat.reduceLeDiff, Nat.reduceLT, Nat.reduceEqDiff, LT.lo, Leaf.lo, awake_ok, Option.bind_some, row_facts, Fl, Fm, Bool.not_true, Bool.not_false]
  rw [hm] at Fm
  cases hs : shortF (f0, f1, f2, f3, f4, f5)
  · rw [hs] at S
    try simp -implicitDefEqProofs only [evs, reduceIte, rdRes, rdTT, rdTy, rdLT, Res.un, TT.un, Ty.un, LT.un, Leaf.un, Leaf.plain, LT.plain, evh, List.replicate, splice, LT.pack, Leaf.pack, Nat.reduceAdd, Nat.reduceSub, Nat.reduceLeDiff, Nat.reduceLT, Nat.reduceEqDiff, LT.lo, Leaf.lo, awake_ok, Option.bind_some, row_facts, row_ints, row_texts, Fl, Fm, S, Bool.not_true, Bool.not_false]
  rw [hs] at S
  obtain ⟨l1, l2⟩ := FSl hl
  obtain ⟨m1, m2⟩ := FSm hm
  have hf := SS hs
  have CPl := Cp_ok l (by omega) l2
  have CPm := Cp_ok m (by omega) m2
  have CY := CY hf
  have A := A (F19l hl) l2 hf (fun _ => set_ends l (by omega) l2 _)
  have RA := RA (F19l hl) l2 hf
  have DD := Differ_ok l m (fun h => by have := F19l hl h; omega) (fun h => by have := F19m hm h; omega) l2 m2
  have RD' := RDiffer_ok l m (by omega) (by omega) l2 m2
  obtain ⟨a1, a2⟩ := AS (F19l hl) l2 hf
  obtain ⟨⟨d1, d2⟩, d3, d4⟩ := differF_small l2 m2
  have S1 := RSame_ok _ (addF l (f0, f1, f2, f3, f4, f5)).1 (by omega) a2
  have S2 := RSame_ok _ (differF l m).1 (by omega) d2
  have S3 := RSame_ok _ (differF l m).2.1 (by omega) d4
  generalize addF l (f0, f1, f2, f3, f4, f5) = ad at A RA S1
  generalize differF l m = df at DD RD' S2 S3
  obtain ⟨ad1, ad2, ad3⟩ := ad
  obtain ⟨df1, df2, df3⟩ := df
  simp only [decide_true] at S1 S2 S3
  try simp -implicitDefEqProofs only [evs, reduceIte, rdRes, rdTT, rdTy, rdLT, Res.un, TT.un, Ty.un, LT.un, Leaf.un, Leaf.plain, LT.plain, evh, List.replicate, splice, LT.pack, Leaf.pack, Nat.reduceAdd, Nat.reduceSub, Nat.reduceLeDiff, Nat.reduceLT, Nat.reduceEqDiff, LT.lo, Leaf.lo, awake_ok, Option.bind_some, row_facts, row_facts2, row_ints, row_texts, Fl, Fm, S, Bool.not_true, Bool.not_false, hL_reserve, CPl, CPm, CY, A, RA, DD, RD', S1, S2, S3, beq_self_eq_true, eq_self, decide_true]

end Go.Proofs.YtjkjcnadgpndoaaGreat
