/- What the functions of this seat compute: some texts in one. Conditions: those of each law. -/
import Derived.Test.YtbcpdecgfdlaaaaEvRow
import Derived.Test.YtbcpdecgfdlaaaaShVa0
/- The law ShareVats in plain numbers. Conditions: the last number is not negative. -/
namespace Go.Proofs.Ytbcpdecgfdlaaaa
open Go Go.Proofs.Ytbcpdecgfdlaaaa.Ev
set_option linter.unusedVariables false
set_option linter.unusedSimpArgs false
set_option maxRecDepth 100000
set_option maxHeartbeats 4000000
theorem flat_takeL {f : Bool} {ls : List Leaf} (xs : List (LT ls)) (i : Nat) (hi : i ≤ xs.length) : (xs.flatMap fun x => LT.lo f ls x).take (i * ls.length) = (xs.take i).flatMap fun x => LT.lo f ls x := by
  have := congrArg (fun l => l.flatMap fun x => LT.lo f ls x) (List.take_append_drop i xs)
  simp only [List.flatMap_append] at this
  rw [← this, List.take_left']
  rw [flat_length, List.length_take, Nat.min_eq_left hi]
/-- A part of a row. -/
theorem rdRow_part {lp f : Bool} {h : H} {ls : List Leaf} {xs : List (LT ls)} {i n w c : Nat} {t : Bool} (hw : ls.length = w) (hp : Leaf.plain (.row ls) = true) (hb : (lp || f) = true) (hin : i + n ≤ xs.length) :
    rdRow lp h ls ⟨(rowSV f ls xs).a.add (i * w), n, c, t⟩ = some ((xs.drop i).take n) := by
  subst hw
  have key := rdLeaf_lo (lp := lp) (f := f) (h := h) hb (.row ls) ((xs.drop i).take n) hp
  have hlen : ((xs.drop i).take n).length = n := by rw [List.length_take, List.length_drop]; omega
  by_cases hn : n = 0
  · subst hn
    rw [List.take_zero]
    exact rdRow_nil
  · rw [← key]
    unfold rdRow
    simp only [Leaf.lo, rdLeaf, hlen, if_neg hn]
    have h1 : h.rds ((rowSV f ls xs).a.add (i * ls.length)) (n * ls.length) = h.rds (.lp f (((xs.drop i).take n).flatMap fun x => LT.lo f ls x) 0) (n * ls.length) := by
      have h2 : ∀ (cs : List V), h.from (.lp f cs 0) = some cs := fun cs => by simp only [H.from, List.drop_zero]
      unfold H.rds
      rw [from_row, h2]
      simp only [Option.bind_some, flat_drop]
      rw [flat_takeL (xs.drop i) n (by rw [List.length_drop]; omega)]
      have l1 := flat_length (f := f) (xs.drop i)
      have l2 := flat_length (f := f) ((xs.drop i).take n)
      rw [hlen] at l2
      rw [l1, l2, List.take_of_length_le (l := ((xs.drop i).take n).flatMap fun x => LT.lo f ls x) (by rw [l2]; exact Nat.le_refl _)]
      have hle : n * ls.length ≤ (xs.drop i).length * ls.length := Nat.mul_le_mul_right _ (by rw [List.length_drop]; omega)
      by_cases h0 : n * ls.length ≠ 0
      · rw [if_pos ⟨hle, h0⟩, if_pos ⟨Nat.le_refl _, h0⟩]
      · rw [if_neg (fun h => h0 h.2), if_neg (fun h => h0 h.2)]
    rw [h1]
    rfl
theorem push_lot (sl : List Slot) (d a m : Int) (xs : List (Int × Int)) : ∃ B, H.wrs (hL (sl ++ [Slot.own [V.int .i64 0, V.int .i64 0, V.int .i64 0, V.slice .nil 0 0 false] 4])) (.hp sl.length 4 0) [V.int .i64 d, V.int .i64 a, V.int .i64 m, V.slice (rowSV true [.int .i64, .int .i64] xs).a xs.length xs.length true] = some (hL B) ∧ B.length = sl.length + 1 ∧ B[sl.length]? = some (cL (d, a, m, rowSV true j2 xs)) ∧ ∀ j, j < sl.length → B[j]? = sl[j]? :=
  ⟨sl ++ [cL (d, a, m, rowSV true j2 xs)], new_cL (x := (d, a, m, rowSV true j2 xs)), by simp, by simp, fun j hj => by rw [List.getElem?_append_left hj]⟩
theorem vats_loop2 {a b : LotT} {sl : List Slot} :
    ∃ s sl' o, iter FUEL (spilelaw23_ShareVats.loop2 a.1 a.2.1 a.2.2.1 (rowSV true j2 a.2.2.2) b.1 b.2.1 b.2.2.1 (rowSV true j2 b.2.2.2)) ((⟨.nil, 0, 0, false⟩, 0), hL sl) = some (.ex0 s, hL sl') ∧ Acc sl' jL (keepP [a, b]) s o ∧ sl.length ≤ sl'.length ∧ ∀ j, j < sl.length → sl'[j]? = sl[j]? := by
  have round : ∀ (i : Nat) (y : LotT) (s : SV) (sl1 : List Slot) (o : Option Nat) (acc : List LotT), [a, b][i]? = some y → Acc sl1 jL acc s o → acc.length ≤ 2 → sl.length ≤ sl1.length → (∀ id, o = some id → sl.length ≤ id) → (∀ j, j < sl.length → sl1[j]? = sl[j]?) →
      ∃ s' sl2 o', spilelaw23_ShareVats.loop2 a.1 a.2.1 a.2.2.1 (rowSV true j2 a.2.2.2) b.1 b.2.1 b.2.2.1 (rowSV true j2 b.2.2.2) ((s, (i : Int)), hL sl1) = some (.more ((s', ((i + 1 : Nat) : Int)), hL sl2)) ∧ Acc sl2 jL (acc ++ (if 0 < y.2.2.1 then [y] else [])) s' o' ∧ sl.length ≤ sl2.length ∧ (∀ id, o' = some id → sl.length ≤ id) ∧ (∀ j, j < sl.length → sl2[j]? = sl[j]?) := fun i y s sl1 o acc hy hacc hal hlen ho hsame => by
    have hi : i < 2 := (List.getElem?_eq_some_iff.1 hy).1
    have hread : rdT (.agg [.int .i64, .int .i64, .int .i64, .slice]) (hL sl1) (.lp true (cells2 a b) (0 + i * 4)) = some (lotSV true y) := by
      obtain rfl | rfl : i = 0 ∨ i = 1 := by omega
      · cases hy; rfl
      · cases hy; rfl
    have hg1 : 0 ≤ (i : Int) ∧ (i : Int) < ((2 : Nat) : Int) := by omega
    have hw : IntKind.wrap .i64 ((i : Int) + 1) = ((i + 1 : Nat) : Int) := i64_succ (by omega)
    have hmore : (sl1 ++ [cL (lotSV true y)])[sl1.length]? = some (cL (lotSV true y)) := by simp
    have nw := new_cL (sl := sl1) (x := lotSV true y)
    have r1 := rd_cL hmore
    have r2 := rds_cL hmore
    have hacc' : Acc (sl1 ++ [cL (lotSV true y)]) jL acc s o := hacc.more
    have hsame' : ∀ j, j < sl.length → (sl1 ++ [cL (lotSV true y)])[j]? = sl[j]? := fun j hj => by rw [List.getElem?_append_left (by omega), hsame j hj]
    obtain ⟨d, al, m, ys⟩ := y
    simp only [cL, lotSV, rowSV_len, rowSV_cap, rowSV_tail] at nw r1 r2 hread
    by_cases hm : 0 < m
    · obtain ⟨s', sl2, id, k1, k2, k3, k4, k5⟩ := hacc'.append (b := 48) (w := 4) (x := ((d, al, m, ys) : LotT)) (vs := [.int .i64 d, .int .i64 al, .int .i64 m, .slice (rowSV true j2 ys).a ys.length ys.length true]) rfl (by omega) (by omega) (by omega) rfl
      simp only [cL, lotSV, rowSV_len, rowSV_cap, rowSV_tail] at k1
      refine ⟨s', sl2, some id, ?_, by rw [if_pos hm]; exact k2, by rw [List.length_append] at k4; omega, fun id' h' => ?_, fun j hj => ?_⟩
      · unfold spilelaw23_ShareVats.loop2
        simp -implicitDefEqProofs only [evs, reduceIte, rdRes, rdTT, rdTy, rdLT, Res.un, TT.un, Ty.un, LT.un, Leaf.un, Leaf.plain, LT.plain, Int.toNat_natCast, guardO_pos hg1]
        rw [decide_eq_true (show (i : Int) < 2 by omega)]
        simp -implicitDefEqProofs only [evs, reduceIte, rdRes, rdTT, rdTy, rdLT, Res.un, TT.un, Ty.un, LT.un, Leaf.un, Leaf.plain, LT.plain, guardO_pos hg1]
        rw [hread]
        simp -implicitDefEqProofs only [evs, reduceIte, rdRes, rdTT, rdTy, rdLT, Res.un, TT.un, Ty.un, LT.un, Leaf.un, Leaf.plain, LT.plain, hL_new, hL_next]
        rw [nw]
        simp -implicitDefEqProofs only [evs, reduceIte, rdRes, rdTT, rdTy, rdLT, Res.un, TT.un, Ty.un, LT.un, Leaf.un, Leaf.plain, LT.plain]
        rw [r1.2.2.1]
        simp -implicitDefEqProofs only [evs, reduceIte, rdRes, rdTT, rdTy, rdLT, Res.un, TT.un, Ty.un, LT.un, Leaf.un, Leaf.plain, LT.plain]
        rw [decide_eq_true hm]
        simp -implicitDefEqProofs only [evs, reduceIte, rdRes, rdTT, rdTy, rdLT, Res.un, TT.un, Ty.un, LT.un, Leaf.un, Leaf.plain, LT.plain]
        rw [r2]
        simp -implicitDefEqProofs only [evs, reduceIte, rdRes, rdTT, rdTy, rdLT, Res.un, TT.un, Ty.un, LT.un, Leaf.un, Leaf.plain, LT.plain]
        rw [k1]
        simp -implicitDefEqProofs only [evs, reduceIte, rdRes, rdTT, rdTy, rdLT, Res.un, TT.un, Ty.un, LT.un, Leaf.un, Leaf.plain, LT.plain, hw]
      · cases h'
        rcases k3 with k3 | ⟨_, k3⟩
        · exact ho _ k3
        · rw [k3, List.length_append]; omega
      · have hno : o ≠ some j := fun e => by have := ho j e; omega
        rw [k5 j hno (by rw [List.length_append]; omega), hsame' j hj]
    · refine ⟨s, sl1 ++ [cL (lotSV true (d, al, m, ys))], o, ?_, by rw [if_neg hm, List.append_nil]; exact hacc', by simp; omega, ho, hsame'⟩
      unfold spilelaw23_ShareVats.loop2
      simp -implicitDefEqProofs only [evs, reduceIte, rdRes, rdTT, rdTy, rdLT, Res.un, TT.un, Ty.un, LT.un, Leaf.un, Leaf.plain, LT.plain, Int.toNat_natCast, guardO_pos hg1]
      rw [decide_eq_true (show (i : Int) < 2 by omega)]
      simp -implicitDefEqProofs only [evs, reduceIte, rdRes, rdTT, rdTy, rdLT, Res.un, TT.un, Ty.un, LT.un, Leaf.un, Leaf.plain, LT.plain, guardO_pos hg1]
      rw [hread]
      simp -implicitDefEqProofs only [evs, reduceIte, rdRes, rdTT, rdTy, rdLT, Res.un, TT.un, Ty.un, LT.un, Leaf.un, Leaf.plain, LT.plain, hL_new, hL_next]
      rw [nw]
      simp -implicitDefEqProofs only [evs, reduceIte, rdRes, rdTT, rdTy, rdLT, Res.un, TT.un, Ty.un, LT.un, Leaf.un, Leaf.plain, LT.plain]
      rw [r1.2.2.1]
      simp -implicitDefEqProofs only [evs, reduceIte, rdRes, rdTT, rdTy, rdLT, Res.un, TT.un, Ty.un, LT.un, Leaf.un, Leaf.plain, LT.plain]
      rw [decide_eq_false hm]
      simp -implicitDefEqProofs only [evs, reduceIte, rdRes, rdTT, rdTy, rdLT, Res.un, TT.un, Ty.un, LT.un, Leaf.un, Leaf.plain, LT.plain, hw]
      rfl
  obtain ⟨s1, sl1, o1, a1, a2, a3, a4, a5⟩ := round 0 a ⟨.nil, 0, 0, false⟩ sl none [] rfl Acc.nil (by simp) (by omega) (fun _ h => by cases h) (fun _ _ => rfl)
  obtain ⟨s2, sl2, o2, b1, b2, b3, b4, b5⟩ := round 1 b s1 sl1 o1 _ rfl a2 (by simp only [List.nil_append]; split <;> simp) a3 a4 a5
  refine ⟨s2, sl2, o2, iter_from (s0 := ((⟨.nil, 0, 0, false⟩, 0), hL sl)) (fun i => ((pick3 ⟨.nil, 0, 0, false⟩ s1 s2 i, (i : Int)), hL (pick3 sl sl1 sl2 i))) rfl 2 FUEL (fun i hi => ?_) ?_ (fuel_gt (by omega)), ?_, b3, b5⟩
  · obtain rfl | rfl : i = 0 ∨ i = 1 := by omega
    · exact a1
    · exact b1
  · unfold spilelaw23_ShareVats.loop2
    simp -implicitDefEqProofs only [evs, reduceIte, rdRes, rdTT, rdTy, rdLT, Res.un, TT.un, Ty.un, LT.un, Leaf.un, Leaf.plain, LT.plain]
    rw [decide_eq_false (by omega), cond_false, pick3_2, pick3_2]
  · rw [keepP_two]
    rw [List.nil_append] at b2
    exact b2
theorem vats_loop3 {l : List LotT} {sl : List Slot} (he : lotErr l = 0) (h32 : (joinAll l).length ≤ 32) : ∃ sl', iter FUEL (spilelaw23_ShareVats.loop3 (rowSV false jL l) (rowSV true j2 (joinAll l))) (0, hL sl) = some (.ex0 (), hL sl') ∧ sl.length ≤ sl'.length ∧ ∀ j, j < sl.length → sl'[j]? = sl[j]? := by
  have hr := rightL_of he
  have hg := good_all hr
  obtain ⟨x, h1, sl', rfl, h2, h3⟩ := iter_upto (f := spilelaw23_ShareVats.loop3 (rowSV false jL l) (rowSV true j2 (joinAll l))) (fun i st => ∃ sl', st = ((i : Int), hL sl') ∧ sl.length ≤ sl'.length ∧ ∀ j, j < sl.length → sl'[j]? = sl[j]?) (fun x => ∃ sl', x = (.ex0 (), hL sl') ∧ sl.length ≤ sl'.length ∧ ∀ j, j < sl.length → sl'[j]? = sl[j]?) (joinAll l).length (fun i st hi hst => by
    obtain ⟨sl', rfl, hlen, hsame⟩ := hst
    have hg1 : 0 ≤ (i : Int) ∧ (i : Int) < ((joinAll l).length : Int) := by omega
    have hx := at2_some hi
    have hm := at2_mem hi
    have hof := Of_lots (f := (at2 (joinAll l) i).1) he (hg.2 _ hm).1
    rw [← amtOf_all, amtOf_mem hg.1 hm] at hof
    have hrow : (sl' ++ [c2 (at2 (joinAll l) i)])[sl'.length]? = some (c2 (at2 (joinAll l) i)) := by simp
    have r1 := rd_c2 hrow
    refine ⟨(((i + 1 : Nat) : Int), hL (sl' ++ [c2 (at2 (joinAll l) i)])), ?_, _, rfl, by simp; omega, fun j hj => by rw [List.getElem?_append_left (by omega), hsame j hj]⟩
    unfold spilelaw23_ShareVats.loop3
    simp -implicitDefEqProofs only [Int.toNat_natCast, rowSV_len, guardO_pos hg1]
    rw [decide_eq_true hg1.2, cond_true, rds_rowF (ls := j2) (w := 2) rfl (by omega) rfl, hx]
    simp -implicitDefEqProofs only [Option.bind_some, hL_new, hL_next]
    rw [new_c2]
    simp -implicitDefEqProofs only [Option.bind_some, rdRow_argL]
    rw [r1.1]
    simp -implicitDefEqProofs only [Option.bind_some]
    rw [hof]
    simp -implicitDefEqProofs only [evs, reduceIte, rdRes, rdTT, rdTy, rdLT, Res.un, TT.un, Ty.un, LT.un, Leaf.un, Leaf.plain, LT.plain, eq_self, decide_true]
    rw [r1.2]
    simp -implicitDefEqProofs only [evs, reduceIte, rdRes, rdTT, rdTy, rdLT, Res.un, TT.un, Ty.un, LT.un, Leaf.un, Leaf.plain, LT.plain, eq_self, decide_true]
    rw [i64_succ (by omega)]) (fun st hst => by
    obtain ⟨sl', rfl, hlen, hsame⟩ := hst
    refine ⟨_, ?_, sl', rfl, hlen, hsame⟩
    unfold spilelaw23_ShareVats.loop3
    simp -implicitDefEqProofs only [rowSV_len]
    rw [decide_eq_false (by omega), cond_false]) FUEL 0 (0, hL sl) (by omega) ⟨sl, rfl, Nat.le_refl _, fun _ _ => rfl⟩ (by have := fuel_gt (n := (joinAll l).length) (by omega); omega)
  exact ⟨sl', h1, h2, h3⟩
theorem ShareVats_plain (l : List LotT) (cut : Int) (hc : 0 ≤ cut ∧ cut < 256) : spilelaw23_ShareVatsP l cut = some true := by
  obtain ⟨b, hb, hb2⟩ := Few22_ok l
  unfold spilelaw23_ShareVatsP spilelaw23_ShareVats
  simp -implicitDefEqProofs only [awake23, evs, reduceIte, rdRes, rdTT, rdTy, rdLT, Res.un, TT.un, Ty.un, LT.un, Leaf.un, Leaf.plain, LT.plain, rdRow_argL]
  by_cases h8 : (8 : Int) < (l.length : Int)
  · rw [decide_eq_true h8]
    simp -implicitDefEqProofs only [evs, reduceIte, rdRes, rdTT, rdTy, rdLT, Res.un, TT.un, Ty.un, LT.un, Leaf.un, Leaf.plain, LT.plain]
  · rw [decide_eq_false h8]
    simp -implicitDefEqProofs only [evs, reduceIte, rdRes, rdTT, rdTy, rdLT, Res.un, TT.un, Ty.un, LT.un, Leaf.un, Leaf.plain, LT.plain]
    rw [hb]
    simp -implicitDefEqProofs only [evs, reduceIte, rdRes, rdTT, rdTy, rdLT, Res.un, TT.un, Ty.un, LT.un, Leaf.un, Leaf.plain, LT.plain]
    cases b with
    | false => simp -implicitDefEqProofs only [evs, reduceIte, rdRes, rdTT, rdTy, rdLT, Res.un, TT.un, Ty.un, LT.un, Leaf.un, Leaf.plain, LT.plain, Bool.false_eq_true]
    | true =>
      obtain ⟨h1, h2⟩ := hb2 rfl
      simp -implicitDefEqProofs only [evs, reduceIte, rdRes, rdTT, rdTy, rdLT, Res.un, TT.un, Ty.un, LT.un, Leaf.un, Leaf.plain, LT.plain, rdRow_argL]
      rw [Vat_ok l 1 (by omega)]
      by_cases hv : (vatOf l 1).2 = 0
      · obtain ⟨he, hr, h32, hp, hA⟩ := vat_right hv
        have hturn := vat_turned hv
        rw [hA] at hturn ⊢
        simp -implicitDefEqProofs only [evs, reduceIte, rdRes, rdTT, rdTy, rdLT, Res.un, TT.un, Ty.un, LT.un, Leaf.un, Leaf.plain, LT.plain, hL_empty, hL_new, hL_next, List.nil_append, List.length_nil]
        obtain ⟨S0, p1, p2, p3, p4⟩ := push_lot [] 1 (sumL (liqs l)).1 (sumL (liqs l)).2 (joinAll l)
        simp only [List.nil_append, List.length_nil, Nat.zero_add] at p1 p2 p3 p4
        rw [p1]
        simp -implicitDefEqProofs only [evs, reduceIte, rdRes, rdTT, rdTy, rdLT, Res.un, TT.un, Ty.un, LT.un, Leaf.un, Leaf.plain, LT.plain, eq_self, decide_true]
        obtain ⟨s, S1, o, q1, q2, q3, q4, q5⟩ := CopyAll_ok (l := l) (sl := S0) (by omega) (fun x hx => by have := h2 x hx; omega)
        rw [q1]
        simp -implicitDefEqProofs only [evs, reduceIte, rdRes, rdTT, rdTy, rdLT, Res.un, TT.un, Ty.un, LT.un, Leaf.un, Leaf.plain, LT.plain]
        obtain ⟨S2, r1, r2, r3, r4⟩ := ReverseL_ok q2 (by omega)
        rw [r1]
        simp -implicitDefEqProofs only [evs, reduceIte, rdRes, rdTT, rdTy, rdLT, Res.un, TT.un, Ty.un, LT.un, Leaf.un, Leaf.plain, LT.plain]
        have hsl : s.len = l.reverse.length := r2.len
        obtain ⟨S3, t1, t2, t3⟩ := ids_loop (F := spilelaw23_ShareVats.loop1 s) r2 (by rw [List.length_reverse]; omega) (fun i h hi => by
          have hg1 : 0 ≤ (i : Int) ∧ (i : Int) < (s.len : Int) := by rw [hsl]; omega
          unfold spilelaw23_ShareVats.loop1
          simp -implicitDefEqProofs only [Int.toNat_natCast, guardO_pos hg1]
          rw [decide_eq_true hg1.2, cond_true, guardO_pos (Acc.nnL r2 hi), i64_succ (by rw [List.length_reverse] at hi; omega)]
          rfl) (fun h => by
          unfold spilelaw23_ShareVats.loop1
          simp -implicitDefEqProofs only [hsl]
          rw [decide_eq_false (by omega), cond_false])
        rw [t1]
        simp -implicitDefEqProofs only [evs, reduceIte, rdRes, rdTT, rdTy, rdLT, Res.un, TT.un, Ty.un, LT.un, Leaf.un, Leaf.plain, LT.plain]
        have ho0 : o ≠ some 0 := fun e => by have := q3 0 e; omega
        have x3 : S3[0]? = some (cL (1, (sumL (liqs l)).1, (sumL (liqs l)).2, rowSV true j2 (joinAll l))) := by rw [t3 0 ho0, r4 0 ho0, q5 0 (by omega), p3]
        have l3 := (List.getElem?_eq_some_iff.1 x3).1
        rw [t2.read rfl]
        simp -implicitDefEqProofs only [evs, reduceIte, rdRes, rdTT, rdTy, rdLT, Res.un, TT.un, Ty.un, LT.un, Leaf.un, Leaf.plain, LT.plain]
        rw [Vat_ok _ 1 (by rw [renTo_length, List.length_reverse]; omega), hturn]
        simp -implicitDefEqProofs only [evs, reduceIte, rdRes, rdTT, rdTy, rdLT, Res.un, TT.un, Ty.un, LT.un, Leaf.un, Leaf.plain, LT.plain, hL_new, hL_next]
        obtain ⟨B, b1, b2, b3, b4⟩ := push_lot S3 1 (sumL (liqs l)).1 (sumL (liqs l)).2 (joinAll l)
        rw [b1]
        simp -implicitDefEqProofs only [evs, reduceIte, rdRes, rdTT, rdTy, rdLT, Res.un, TT.un, Ty.un, LT.un, Leaf.un, Leaf.plain, LT.plain]
        obtain ⟨c, rfl⟩ : ∃ c : Nat, cut = (c : Int) := ⟨cut.toNat, by omega⟩
        have hm : Int.tmod (IntKind.wrap .i64 (c : Int)) (IntKind.wrap .i64 ((l.length : Int) + 1)) = ((c % (l.length + 1) : Nat) : Int) := by
          rw [i64_in _ (by omega), i64_in _ (by omega), show (l.length : Int) + 1 = ((l.length + 1 : Nat) : Int) by omega, ← Int.ofNat_tmod]
        have hcl : c % (l.length + 1) ≤ l.length := by have := Nat.mod_lt c (show 0 < l.length + 1 by omega); omega
        rw [hm]
        generalize c % (l.length + 1) = k at *
        rw [guardO_pos (by rw [i64_in _ (by omega)]; omega), guardO_pos ⟨Int.le_refl _, by omega, by omega⟩]
        have u1 := fun h c => rdRow_part (lp := true) (f := false) (h := h) (ls := jL) (xs := l) (i := 0) (n := k) (w := 4) (c := c) (t := true) rfl rfl rfl (by omega)
        have u2 := fun h c => rdRow_part (lp := true) (f := false) (h := h) (ls := jL) (xs := l) (i := k) (n := l.length - k) (w := 4) (c := c) (t := true) rfl rfl rfl (by omega)
        rw [List.drop_zero] at u1
        rw [List.take_of_length_le (by rw [List.length_drop]; exact Nat.le_refl _)] at u2
        obtain ⟨g1, g2, g3⟩ := vat_groups (k := k) hv
        rw [hA] at g3
        have z0 : Int.toNat 0 = 0 := rfl
        have hgk : 0 ≤ (k : Int) ∧ (k : Int) ≤ (l.length : Int) ∧ (l.length : Int) ≤ (l.length : Int) := by omega
        simp -implicitDefEqProofs only [Int.toNat_natCast, z0, Nat.sub_zero]
        simp only [Nat.zero_mul] at u1
        rw [u1]
        simp -implicitDefEqProofs only [evs, reduceIte, rdRes, rdTT, rdTy, rdLT, Res.un, TT.un, Ty.un, LT.un, Leaf.un, Leaf.plain, LT.plain]
        have v1 := Vat_ok (l.take k) 1 (by rw [List.length_take]; omega)
        have v2 := Vat_ok (l.drop k) 2 (by rw [List.length_drop]; omega)
        generalize vatOf (l.take k) 1 = VC at *
        generalize vatOf (l.drop k) 2 = VD at *
        obtain ⟨⟨c0, c1, c2', c3⟩, ce⟩ := VC
        obtain ⟨⟨d0, d1, d2, d3⟩, de⟩ := VD
        simp only at g1 g2 g3
        subst g1 g2
        rw [v1]
        simp -implicitDefEqProofs only [evs, reduceIte, rdRes, rdTT, rdTy, rdLT, Res.un, TT.un, Ty.un, LT.un, Leaf.un, Leaf.plain, LT.plain, hL_new, hL_next]
        obtain ⟨C, m1, m2, m3, m4⟩ := push_lot B c0 c1 c2' c3
        rw [m1]
        simp -implicitDefEqProofs only [evs, reduceIte, rdRes, rdTT, rdTy, rdLT, Res.un, TT.un, Ty.un, LT.un, Leaf.un, Leaf.plain, LT.plain]
        rw [guardO_pos hgk, u2]
        simp -implicitDefEqProofs only [evs, reduceIte, rdRes, rdTT, rdTy, rdLT, Res.un, TT.un, Ty.un, LT.un, Leaf.un, Leaf.plain, LT.plain]
        rw [v2]
        simp -implicitDefEqProofs only [evs, reduceIte, rdRes, rdTT, rdTy, rdLT, Res.un, TT.un, Ty.un, LT.un, Leaf.un, Leaf.plain, LT.plain, hL_new, hL_next]
        obtain ⟨D, n1, n2, n3, n4⟩ := push_lot C d0 d1 d2 d3
        rw [n1]
        simp -implicitDefEqProofs only [evs, reduceIte, rdRes, rdTT, rdTy, rdLT, Res.un, TT.un, Ty.un, LT.un, Leaf.un, Leaf.plain, LT.plain]
        have xc : D[B.length]? = some (cL (c0, c1, c2', rowSV true j2 c3)) := by rw [n4 _ (by omega), m3]
        rw [rds_cL xc]
        simp -implicitDefEqProofs only [evs, reduceIte, rdRes, rdTT, rdTy, rdLT, Res.un, TT.un, Ty.un, LT.un, Leaf.un, Leaf.plain, LT.plain]
        rw [rds_cL n3]
        simp -implicitDefEqProofs only [evs, reduceIte, rdRes, rdTT, rdTy, rdLT, Res.un, TT.un, Ty.un, LT.un, Leaf.un, Leaf.plain, LT.plain]
        obtain ⟨sy, E, oy, w1, w2, w3, w4⟩ := vats_loop2 (a := (c0, c1, c2', c3)) (b := (d0, d1, d2, d3)) (sl := D)
        rw [w1]
        simp -implicitDefEqProofs only [evs, reduceIte, rdRes, rdTT, rdTy, rdLT, Res.un, TT.un, Ty.un, LT.un, Leaf.un, Leaf.plain, LT.plain]
        rw [w2.read rfl]
        simp -implicitDefEqProofs only [evs, reduceIte, rdRes, rdTT, rdTy, rdLT, Res.un, TT.un, Ty.un, LT.un, Leaf.un, Leaf.plain, LT.plain]
        have hkl : (keepP [((c0, c1, c2', c3) : LotT), (d0, d1, d2, d3)]).length ≤ 2 := by unfold keepP; exact Nat.le_trans (List.length_filter_le ..) (by simp)
        rw [Vat_ok _ 1 (by omega), g3]
        simp -implicitDefEqProofs only [evs, reduceIte, rdRes, rdTT, rdTy, rdLT, Res.un, TT.un, Ty.un, LT.un, Leaf.un, Leaf.plain, LT.plain, hL_new, hL_next]
        obtain ⟨F, f1, f2, f3, f4⟩ := push_lot E 1 (sumL (liqs l)).1 (sumL (liqs l)).2 (joinAll l)
        rw [f1]
        simp -implicitDefEqProofs only [evs, reduceIte, rdRes, rdTT, rdTy, rdLT, Res.un, TT.un, Ty.un, LT.un, Leaf.un, Leaf.plain, LT.plain, eq_self, decide_true]
        have x0 : F[0]? = some (cL (1, (sumL (liqs l)).1, (sumL (liqs l)).2, rowSV true j2 (joinAll l))) := by rw [f4 0 (by omega), w4 0 (by omega), n4 0 (by omega), m4 0 (by omega), b4 0 (by omega), x3]
        have xb : F[S3.length]? = some (cL (1, (sumL (liqs l)).1, (sumL (liqs l)).2, rowSV true j2 (joinAll l))) := by rw [f4 _ (by omega), w4 _ (by omega), n4 _ (by omega), m4 _ (by omega), b3]
        rw [rds_cL x0]
        simp -implicitDefEqProofs only [evs, reduceIte, rdRes, rdTT, rdTy, rdLT, Res.un, TT.un, Ty.un, LT.un, Leaf.un, Leaf.plain, LT.plain]
        rw [rds_cL xb]
        simp -implicitDefEqProofs only [evs, reduceIte, rdRes, rdTT, rdTy, rdLT, Res.un, TT.un, Ty.un, LT.un, Leaf.un, Leaf.plain, LT.plain]
        rw [SameLot_ok _ _ (by simp only; omega)]
        simp -implicitDefEqProofs only [evs, reduceIte, rdRes, rdTT, rdTy, rdLT, Res.un, TT.un, Ty.un, LT.un, Leaf.un, Leaf.plain, LT.plain, eq_self, decide_true]
        rw [rds_cL f3]
        simp -implicitDefEqProofs only [evs, reduceIte, rdRes, rdTT, rdTy, rdLT, Res.un, TT.un, Ty.un, LT.un, Leaf.un, Leaf.plain, LT.plain]
        rw [SameLot_ok _ _ (by simp only; omega)]
        simp -implicitDefEqProofs only [evs, reduceIte, rdRes, rdTT, rdTy, rdLT, Res.un, TT.un, Ty.un, LT.un, Leaf.un, Leaf.plain, LT.plain, eq_self, decide_true]
        rw [(rd_cL x0).2.2.2]
        simp -implicitDefEqProofs only [evs, reduceIte, rdRes, rdTT, rdTy, rdLT, Res.un, TT.un, Ty.un, LT.un, Leaf.un, Leaf.plain, LT.plain]
        obtain ⟨G, y1, y2, y3⟩ := vats_loop3 (sl := F) he h32
        rw [y1]
        simp -implicitDefEqProofs only [evs, reduceIte, rdRes, rdTT, rdTy, rdLT, Res.un, TT.un, Ty.un, LT.un, Leaf.un, Leaf.plain, LT.plain, rdRow_argL]
        rw [Total_lots he hp]
        simp -implicitDefEqProofs only [evs, reduceIte, rdRes, rdTT, rdTy, rdLT, Res.un, TT.un, Ty.un, LT.un, Leaf.un, Leaf.plain, LT.plain, hL_new, hL_next]
        have xg : G[0]? = some (cL (1, (sumL (liqs l)).1, (sumL (liqs l)).2, rowSV true j2 (joinAll l))) := by rw [y3 0 (by omega), x0]
        have nw := new_c2 (sl := G) (x := sumL (liqs l))
        rw [nw]
        simp -implicitDefEqProofs only [evs, reduceIte, rdRes, rdTT, rdTy, rdLT, Res.un, TT.un, Ty.un, LT.un, Leaf.un, Leaf.plain, LT.plain, eq_self, decide_true]
        have xn : (G ++ [c2 (sumL (liqs l))])[G.length]? = some (c2 (sumL (liqs l))) := by simp
        have xg' : (G ++ [c2 (sumL (liqs l))])[0]? = some (cL (1, (sumL (liqs l)).1, (sumL (liqs l)).2, rowSV true j2 (joinAll l))) := by rw [List.getElem?_append_left (by omega), xg]
        rw [rds_c2 xn]
        simp -implicitDefEqProofs only [evs, reduceIte, rdRes, rdTT, rdTy, rdLT, Res.un, TT.un, Ty.un, LT.un, Leaf.un, Leaf.plain, LT.plain]
        rw [rdl_cL xg']
        simp -implicitDefEqProofs only [evs, reduceIte, rdRes, rdTT, rdTy, rdLT, Res.un, TT.un, Ty.un, LT.un, Leaf.un, Leaf.plain, LT.plain, eq_self, decide_true]
      · have hz := vat_bad hv
        generalize vatOf l 1 = V0 at *
        obtain ⟨v0, v1⟩ := V0
        simp only at hv hz
        subst hz
        simp -implicitDefEqProofs only [evs, reduceIte, rdRes, rdTT, rdTy, rdLT, Res.un, TT.un, Ty.un, LT.un, Leaf.un, Leaf.plain, LT.plain, hL_empty, hL_new, hL_next, List.nil_append, List.length_nil]
        obtain ⟨S0, p1, p2, p3, p4⟩ := push_lot [] 0 0 0 []
        simp only [List.nil_append, List.length_nil, Nat.zero_add] at p1 p2 p3 p4
        rw [p1]
        simp -implicitDefEqProofs only [evs, reduceIte, rdRes, rdTT, rdTy, rdLT, Res.un, TT.un, Ty.un, LT.un, Leaf.un, Leaf.plain, LT.plain]
        rw [decide_eq_false hv]
        simp -implicitDefEqProofs only [evs, reduceIte, rdRes, rdTT, rdTy, rdLT, Res.un, TT.un, Ty.un, LT.un, Leaf.un, Leaf.plain, LT.plain]
        rw [(rd_cL p3).2.2.2]
        simp -implicitDefEqProofs only [evs, reduceIte, rdRes, rdTT, rdTy, rdLT, Res.un, TT.un, Ty.un, LT.un, Leaf.un, Leaf.plain, LT.plain]
        rw [(rd_cL p3).1]
        simp -implicitDefEqProofs only [evs, reduceIte, rdRes, rdTT, rdTy, rdLT, Res.un, TT.un, Ty.un, LT.un, Leaf.un, Leaf.plain, LT.plain, eq_self, decide_true]
        rfl
theorem ShareVats_ok (l : List LotT) (cut : Int) (h : TT.ok [.leaf (.row [.int .i64, .int .i64, .int .i64, .row [.int .i64, .int .i64]]), .leaf (.int .u8)] (l, cut)) : spilelaw23_ShareVatsP l cut = some true := by
  have hk : (Lit.int .u8 cut).wf = true := h.2
  simp only [Lit.wf, Bool.and_eq_true, decide_eq_true_eq] at hk
  have k1 : IntKind.min .u8 = 0 := rfl
  have k2 : IntKind.max .u8 = 255 := rfl
  rw [k1, k2] at hk
  exact ShareVats_plain l cut (by omega)
end Go.Proofs.Ytbcpdecgfdlaaaa
