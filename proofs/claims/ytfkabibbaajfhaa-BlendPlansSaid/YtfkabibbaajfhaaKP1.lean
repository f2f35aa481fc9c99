/- What the functions of this seat compute: some texts in one. Conditions: those of each law. -/
import Derived.Test.YtfkabibbaajfhaaEvSpec
import Derived.Test.YtfkabibbaajfhaaFn9
import Derived.Test.YtfkabibbaajfhaaKP0
/- blend.plans and blend.first; Best and Most. Conditions: those of each law. -/
namespace Go.Proofs.Ytfkabibbaajfhaa
open Go Go.Proofs.Ytfkabibbaajfhaa.Ev
set_option linter.unusedVariables false
set_option linter.unusedSimpArgs false
set_option maxRecDepth 100000
set_option maxHeartbeats 4000000
/-- What the inner loop leaves: the next units, but for the last step. -/
def Carried (n : Nat) (y : Int) (z : List Int) : Option (List Int) → Prop
  | none => y = -1
  | some v => ∃ q : Nat, y = (q : Int) ∧ q < n ∧ z.length = n ∧ ∃ c, z[q]? = some c ∧ 0 ≤ c ∧ c < 64 ∧ z.set q (c + 1) = v
theorem carry_loop {T : Table} {o : OrdT} {fv : V} {d : Int × Int} {b : Option (List Int)} {h : H} {u : List Int} {n : Nat} (e7 : h.next = 7) (hn : u.length = n) (hw : o.2.1.length = n) (hf : fewB o.2.1 u = true) (hb : ∀ x ∈ o.2.1, x ≤ 64) (h62 : n < 2 ^ 62) : ∀ (p : Nat), p ≤ n → u.drop p = o.2.1.drop p → ∀ (fuel : Nat), p < fuel →
    ∃ y z, iter fuel (blend_plans_1.loop1 T h (.hp 5 6 0) (rowSV false j1 o.2.1)) (((p : Int) - 1), hL (PHs o fv d b .ready (u.take p ++ List.replicate (n - p) 0))) = some (.ex0 y, hL (PHs o fv d b .ready z)) ∧ Carried n y z (succU o.2.1 u)
  | 0, _, hd, fuel + 1, hfu => by
    have hu : u = o.2.1 := by simpa using hd
    refine ⟨-1, List.replicate n 0, ?_, ?_⟩
    · rw [iter]
      have e : blend_plans_1.loop1 T h (.hp 5 6 0) (rowSV false j1 o.2.1) ((((0 : Nat) : Int) - 1), hL (PHs o fv d b .ready (u.take 0 ++ List.replicate (n - 0) 0))) = some (.done (.ex0 (-1), hL (PHs o fv d b .ready (List.replicate n 0)))) := by
        unfold blend_plans_1.loop1
        simp only
        rw [decide_eq_false (by omega), cond_false]
        rfl
      rw [e]
      rfl
    · rw [hu, succU_full]
      exact rfl
  | p + 1, hp, hd, fuel + 1, hfu => by
    have hpu : p < u.length := by omega
    have hpw : p < o.2.1.length := by omega
    have hr := rd_oS (sl := PHs o fv d b .ready (u.take (p + 1) ++ List.replicate (n - (p + 1)) 0)) (id := 5) (o := o) rfl
    have hlen : (u.take (p + 1) ++ List.replicate (n - (p + 1)) (0 : Int)).length = n := by simp; omega
    have hgu : (u.take (p + 1) ++ List.replicate (n - (p + 1)) (0 : Int))[p]? = some u[p] := by
      rw [List.getElem?_append_left (by rw [List.length_take]; omega), List.getElem?_take, if_pos (by omega), List.getElem?_eq_getElem hpu]
    have hru := rd_u (sl := PHs o fv d b .ready (u.take (p + 1) ++ List.replicate (n - (p + 1)) 0)) (id := 7) (i := p) rfl hlen (by omega)
    have hwu := wr_u (sl := PHs o fv d b .ready (u.take (p + 1) ++ List.replicate (n - (p + 1)) 0)) (id := 7) (i := p) (x := 0) rfl hlen (by omega)
    rw [take_set hpu hn] at hwu
    simp only [List.set_cons_succ, List.set_cons_zero] at hwu
    rw [hgu] at hru
    have hg1 : 0 ≤ (p : Int) ∧ (p : Int) < (n : Int) := by omega
    have hg2 : 0 ≤ (p : Int) ∧ (p : Int) < (o.2.1.length : Int) := by omega
    have hfg := few_get hf hpu hpw
    have hb' := hb o.2.1[p] (List.getElem_mem hpw)
    have ep : ((p + 1 : Nat) : Int) - 1 = (p : Int) := by omega
    have enn : V.nn (V.hp 5 6 0) = true := rfl
    have e51 : V.add (V.hp 5 6 0) 1 = V.hp 5 6 1 := rfl
    rw [iter]
    by_cases hlt : u[p] < o.2.1[p]
    · have hs := succU_at o.2.1 u p (by omega) hpu hpw hd hlt
      have e : blend_plans_1.loop1 T h (.hp 5 6 0) (rowSV false j1 o.2.1) ((((p + 1 : Nat) : Int) - 1), hL (PHs o fv d b .ready (u.take (p + 1) ++ List.replicate (n - (p + 1)) 0))) = some (.done (.ex0 (p : Int), hL (PHs o fv d b .ready (u.take (p + 1) ++ List.replicate (n - (p + 1)) 0)))) := by
        unfold blend_plans_1.loop1
        try simp -implicitDefEqProofs only [ep, reserve0, rowSV_len, hw, e7, Int.toNat_natCast, Nat.zero_add, e51]
        rw [decide_eq_true hg1.1, cond_true, guardO_pos hg1, hru]
        try simp -implicitDefEqProofs only [evs, reduceIte, rdRes, rdTT, rdTy, rdLT, Res.un, TT.un, Ty.un, LT.un, Leaf.un, Leaf.plain, LT.plain, guardO_pos enn, hr.2.1, hw, guardO_pos hg1]
        rw [rd_rowI, List.getElem?_eq_getElem hpw]
        try simp -implicitDefEqProofs only [evs, reduceIte, rdRes, rdTT, rdTy, rdLT, Res.un, TT.un, Ty.un, LT.un, Leaf.un, Leaf.plain, LT.plain]
        rw [decide_eq_false (show ¬ u[p] = o.2.1[p] by omega)]
        try simp -implicitDefEqProofs only [evs, reduceIte, rdRes, rdTT, rdTy, rdLT, Res.un, TT.un, Ty.un, LT.un, Leaf.un, Leaf.plain, LT.plain]
      rw [e]
      refine ⟨_, _, rfl, ?_⟩
      rw [hs]
      exact ⟨p, rfl, by omega, hlen, u[p], hgu, hfg.1, by omega, by rw [take_set hpu hn, hn]⟩
    · have he : u[p] = o.2.1[p] := by omega
      have hd' : u.drop p = o.2.1.drop p := by
        rw [List.drop_eq_getElem_cons hpu, List.drop_eq_getElem_cons hpw, hd, he]
      have hz : u.take p ++ (0 : Int) :: List.replicate (n - p - 1) 0 = u.take p ++ List.replicate (n - p) 0 := by
        rw [show n - p = (n - p - 1) + 1 by omega, List.replicate_succ]
        simp
      have e : blend_plans_1.loop1 T h (.hp 5 6 0) (rowSV false j1 o.2.1) ((((p + 1 : Nat) : Int) - 1), hL (PHs o fv d b .ready (u.take (p + 1) ++ List.replicate (n - (p + 1)) 0))) = some (.more (((p : Int) - 1), hL (PHs o fv d b .ready (u.take p ++ List.replicate (n - p) 0)))) := by
        unfold blend_plans_1.loop1
        try simp -implicitDefEqProofs only [ep, reserve0, rowSV_len, hw, e7, Int.toNat_natCast, Nat.zero_add, e51]
        rw [decide_eq_true hg1.1, cond_true, guardO_pos hg1, hru]
        try simp -implicitDefEqProofs only [evs, reduceIte, rdRes, rdTT, rdTy, rdLT, Res.un, TT.un, Ty.un, LT.un, Leaf.un, Leaf.plain, LT.plain, guardO_pos enn, hr.2.1, hw, guardO_pos hg1]
        rw [rd_rowI, List.getElem?_eq_getElem hpw]
        try simp -implicitDefEqProofs only [evs, reduceIte, rdRes, rdTT, rdTy, rdLT, Res.un, TT.un, Ty.un, LT.un, Leaf.un, Leaf.plain, LT.plain]
        rw [decide_eq_true he]
        try simp -implicitDefEqProofs only [evs, reduceIte, rdRes, rdTT, rdTy, rdLT, Res.un, TT.un, Ty.un, LT.un, Leaf.un, Leaf.plain, LT.plain, guardO_pos hg1]
        rw [hwu]
        try simp -implicitDefEqProofs only [evs, reduceIte, rdRes, rdTT, rdTy, rdLT, Res.un, TT.un, Ty.un, LT.un, Leaf.un, Leaf.plain, LT.plain]
        rw [i64_in _ (by omega), hz]
      rw [e]
      exact carry_loop e7 hn hw hf hb h62 p (by omega) hd' fuel (by omega)
theorem yield1 {N : Nat} {f : TT [.leaf .slice] → H → Option H} {s : SV} {h : H} {R : Type} {k : V → H → Option R} :
    callV (withY Table.nil (mkY [.leaf .slice] N f)).dy (.yld N) [.slice s.a s.len s.cap s.tail] h k = (f s h).bind fun h' => k (.bool true) h' := by
  have : Nat.beq N N = true := Nat.beq_refl N
  simp [callV, withY, mkY, this, TT.pack, Ty.pack, Leaf.pack]
theorem plans_call {T : Table} {Y : Entry} {N a : Nat} {h : H} : callIt (blend_first.tb T).dy Y (.func 84 [.hp a 6 0]) [.yld N] h = (blend_plans_1 (withY Table.nil Y) (.yld N) (.hp a 6 0) h).bind fun p => some p.2 := by
  have : (blend_first.tb T).dy.it 84 Y = blend_plans_1.it Y := rfl
  simp only [callIt, this, blend_plans_1.it, mkX]
  simp [TT.pack, Ty.pack, Leaf.pack]
theorem better_ok {xs : List (Int × Int)} {o : OrdT} {m : List Int → Int} (ok : OkO xs o) {L : List (List Int)} (hL : ∀ u ∈ L, OkU o u) : ∀ a, bestL m (keepsB xs o) L = some a → OkU o a := by
  refine list_snoc (P := fun L => (∀ u ∈ L, OkU o u) → ∀ a, bestL m (keepsB xs o) L = some a → OkU o a) (fun _ a h => by cases h) (fun l x ih hl a ha => ?_) L hL
  rw [bestL_snoc] at ha
  unfold better at ha
  cases hc : keepsB xs o x && lessB m (bestL m (keepsB xs o) l) x with
  | true => rw [hc] at ha; cases ha; exact hl _ (by simp)
  | false => rw [hc] at ha; exact ih (fun u hu => hl u (by simp [hu])) a ha
/-- The range over all plans. -/
theorem plans_loop {T : Table} {xs : List (Int × Int)} {o : OrdT} {fv : V} {m : List Int → Int} {h h1 h2 h16 h20 hh : H} (ok : OkO xs o) (hb : ByOK T fv m o) (e1 : h.next = 1) (e2 : h1.next = 2) (e3 : h2.next = 3) (e4 : h16.next = 4) (e5 : h20.next = 6) (e7 : hh.next = 7) :
    ∃ z, iter FUEL (blend_plans_1.loop2 (withY Table.nil (mkY [.leaf .slice] 6 (blend_first.round1 T h h1 h2 h16 h20))) hh (.yld 6) (.hp 5 6 0) (rowSV false j1 o.2.1)) ((), hL (PHs o fv (edgeOf xs o) none .ready (List.replicate o.1.length 0))) = some (.ret (), hL (PHs o fv (edgeOf xs o) (bestL m (keepsB xs o) (plansL o.2.1)) .ready z)) := by
  have hrun := plans_run o.2.1 ok.w0
  have hfew := plans_few ok
  have h4 := ok.l4
  have hlu := ok.lu
  -- one round
  have step : ∀ (i : Nat) (u : List Int), (plansL o.2.1)[i]? = some u → ∃ r, blend_plans_1.loop2 (withY Table.nil (mkY [.leaf .slice] 6 (blend_first.round1 T h h1 h2 h16 h20))) hh (.yld 6) (.hp 5 6 0) (rowSV false j1 o.2.1) ((), hL (PHs o fv (edgeOf xs o) (bestL m (keepsB xs o) ((plansL o.2.1).take i)) .ready u)) = some r ∧
      (match (plansL o.2.1)[i + 1]? with
        | some v => r = .more ((), hL (PHs o fv (edgeOf xs o) (bestL m (keepsB xs o) ((plansL o.2.1).take (i + 1))) .ready v))
        | none => ∃ z, r = .done (.ret (), hL (PHs o fv (edgeOf xs o) (bestL m (keepsB xs o) ((plansL o.2.1).take (i + 1))) .ready z))) := fun i u hu => by
    have hU := plan_ok ok (List.mem_of_getElem? hu)
    have hbo := better_ok (m := m) ok (L := (plansL o.2.1).take i) (fun u hu => plan_ok ok (List.mem_of_mem_take hu))
    have hround := round_ok (h := h) (h1 := h1) (h2 := h2) (h16 := h16) (h20 := h20) (b := bestL m (keepsB xs o) ((plansL o.2.1).take i)) (u := u) ok hb e1 e2 e3 e4 e5 hU hbo
    rw [← bestL_snoc, ← take_snoc hu] at hround
    obtain ⟨y, z, hc1, hc2⟩ := carry_loop (T := withY Table.nil (mkY [.leaf .slice] 6 (blend_first.round1 T h h1 h2 h16 h20))) (o := o) (fv := fv) (d := edgeOf xs o) (b := bestL m (keepsB xs o) ((plansL o.2.1).take (i + 1))) (h := hh) (u := u) (n := o.1.length) e7 hU.len ok.lu hU.few ok.w64 (by omega) o.1.length (Nat.le_refl _) (by rw [← hU.len, List.drop_length, hU.len, ← ok.lu, List.drop_length]) FUEL (fuel_gt (by omega))
    rw [show u.take o.1.length = u by rw [← hU.len, List.take_length], Nat.sub_self, List.replicate_zero, List.append_nil] at hc1
    rw [plan_next ok hu] at hc2
    have hy := fun (R : Type) (k : V → H → Option R) => yield1 (N := 6) (f := blend_first.round1 T h h1 h2 h16 h20) (s := ⟨.hp 7 (o.1.length * 1) 0, o.1.length, o.1.length, true⟩) (h := hL (PHs o fv (edgeOf xs o) (bestL m (keepsB xs o) ((plansL o.2.1).take i)) .ready u)) (k := k)
    simp only at hy
    unfold blend_plans_1.loop2
    try simp -implicitDefEqProofs only [rowSV_len, hlu, e7, Int.toNat_natCast, Nat.zero_add]
    rw [hy, hround]
    try simp -implicitDefEqProofs only [evs, reduceIte, rdRes, rdTT, rdTy, rdLT, Res.un, TT.un, Ty.un, LT.un, Leaf.un, Leaf.plain, LT.plain, Res.pack, Ty.pack, Leaf.pack]
    rw [i64_in _ (by omega), hc1]
    cases hv : (plansL o.2.1)[i + 1]? with
    | none =>
      rw [hv] at hc2
      have hc2 : y = -1 := hc2
      subst hc2
      try simp -implicitDefEqProofs only [evs, reduceIte, rdRes, rdTT, rdTy, rdLT, Res.un, TT.un, Ty.un, LT.un, Leaf.un, Leaf.plain, LT.plain, decide_eq_true (show (-1 : Int) < 0 by omega)]
      exact ⟨_, rfl, z, rfl⟩
    | some v =>
      rw [hv] at hc2
      obtain ⟨q, rfl, hq, hzl, c, hzc, hc0, hc64, hset⟩ := hc2
      have hg : 0 ≤ (q : Int) ∧ (q : Int) < (o.1.length : Int) := by omega
      have hrd := rd_u (sl := PHs o fv (edgeOf xs o) (bestL m (keepsB xs o) ((plansL o.2.1).take (i + 1))) .ready z) (id := 7) (i := q) rfl hzl hq
      have hwr := wr_u (sl := PHs o fv (edgeOf xs o) (bestL m (keepsB xs o) ((plansL o.2.1).take (i + 1))) .ready z) (id := 7) (i := q) (x := c + 1) rfl hzl hq
      rw [hset] at hwr
      rw [hzc] at hrd
      simp only [List.set_cons_succ, List.set_cons_zero] at hwr
      try simp -implicitDefEqProofs only [evs, reduceIte, rdRes, rdTT, rdTy, rdLT, Res.un, TT.un, Ty.un, LT.un, Leaf.un, Leaf.plain, LT.plain, decide_eq_false (show ¬ (q : Int) < 0 by omega), guardO_pos hg, Int.toNat_natCast, Nat.zero_add]
      rw [hrd]
      try simp -implicitDefEqProofs only [evs, reduceIte, rdRes, rdTT, rdTy, rdLT, Res.un, TT.un, Ty.un, LT.un, Leaf.un, Leaf.plain, LT.plain]
      rw [i64_in (c + 1) (by omega), hwr]
      try simp -implicitDefEqProofs only [evs, reduceIte, rdRes, rdTT, rdTy, rdLT, Res.un, TT.un, Ty.un, LT.un, Leaf.un, Leaf.plain, LT.plain]
      exact ⟨_, rfl, rfl⟩
  obtain ⟨N, hN⟩ : ∃ N, (plansL o.2.1).length = N + 1 := ⟨(plansL o.2.1).length - 1, by omega⟩
  have hlast : (plansL o.2.1)[N]? = some (plansL o.2.1)[N] := List.getElem?_eq_getElem (by omega)
  obtain ⟨r, hr1, hr2⟩ := step N _ hlast
  rw [List.getElem?_eq_none (by omega)] at hr2
  obtain ⟨z, rfl⟩ := hr2
  rw [← hN, List.take_length] at hr1
  refine ⟨z, iter_from (fun i => ((), hL (PHs o fv (edgeOf xs o) (bestL m (keepsB xs o) ((plansL o.2.1).take i)) .ready ((plansL o.2.1)[i]?.getD [])))) ?_ N FUEL (fun i hi => ?_) ?_ (fuel_gt (by omega))⟩
  · have h0 := hrun.2
    rw [List.head?_eq_getElem?] at h0
    simp only [h0, Option.getD_some, hlu]
    rfl
  · have hi1 : (plansL o.2.1)[i]? = some (plansL o.2.1)[i] := List.getElem?_eq_getElem (by omega)
    have hi2 : (plansL o.2.1)[i + 1]? = some (plansL o.2.1)[i + 1] := List.getElem?_eq_getElem (by omega)
    obtain ⟨r, hr1, hr2⟩ := step i _ hi1
    rw [hi2] at hr2
    simp only at hr2
    subst hr2
    simp only [hi1, hi2, Option.getD_some]
    exact hr1
  · simp only [hlast, Option.getD_some]
    exact hr1
end Go.Proofs.Ytfkabibbaajfhaa
/- blend.first; blend.Best and blend.Most. Conditions: those of each law. -/
namespace Go.Proofs.Ytfkabibbaajfhaa
open Go Go.Proofs.Ytfkabibbaajfhaa.Ev
set_option linter.unusedVariables false
set_option linter.unusedSimpArgs false
set_option maxRecDepth 100000
set_option maxHeartbeats 4000000
def firstR (m : List Int → Int) : Option (List Int) → SV × Int × Int
  | none => (⟨.nil, 0, 0, false⟩, 0, 20)
  | some a => (rowSV true j1 a, m a, 0)
theorem first_ok {T : Table} {xs : List (Int × Int)} {o : OrdT} {fv : V} {m : List Int → Int} (hb : OkO xs o → ByOK T fv m o) (hfv : V.isCell fv = true) :
    ∃ sl, blend_first T (rowSV false j2 xs) (rowSV false j2 o.1, rowSV false j1 o.2.1, rowSV false j1 o.2.2.1, o.2.2.2.1, o.2.2.2.2.1, o.2.2.2.2.2) fv (hL [oS o]) = some (if bcheckOf xs o = 0 then firstR m (bestL m (keepsB xs o) (plansL o.2.1)) else (⟨.nil, 0, 0, false⟩, 0, 1), hL sl) := by
  have q1 := rds_oS (sl := [oS o, oS o, oneS fv]) (id := 1) (o := o) rfl
  have w3 := wrs_c2 (sl := [oS o, oS o, oneS fv, c2 (0, 0)]) (id := 3) (x := (0, 0)) (y := edgeOf xs o) rfl
  have q1' := rds_oS (sl := [oS o, oS o, oneS fv, c2 (edgeOf xs o), oneS (outV none)]) (id := 1) (o := o) rfl
  have q5 := rd_oS (sl := [oS o, oS o, oneS fv, c2 (edgeOf xs o), oneS (outV none), oS o, .loop .ready]) (id := 5) (o := o) rfl
  simp only [oS, oneS, c2, outV, List.set_cons_succ, List.set_cons_zero] at q1 w3 q1' q5
  unfold blend_first
  try simp -implicitDefEqProofs only [evs, reduceIte, rdRes, rdTT, rdTy, rdLT, Res.un, TT.un, Ty.un, LT.un, Leaf.un, Leaf.plain, LT.plain, guardO_pos hfv, hL_new, hL_next, List.cons_append, List.nil_append, List.length_nil, List.length_cons, Nat.zero_add, Nat.reduceAdd, q1]
  try simp -implicitDefEqProofs only [evs, reduceIte, rdRes, rdTT, rdTy, rdLT, Res.un, TT.un, Ty.un, LT.un, Leaf.un, Leaf.plain, LT.plain, ord_eta, BCheck_ok]
  by_cases hc : bcheckOf xs o = 0
  · have h := bcheck_iff.1 hc
    have hb := hb h
    have h4 := h.l4
    have hlu := h.lu
    rw [decide_eq_true hc, if_pos hc]
    try simp -implicitDefEqProofs only [evs, reduceIte, rdRes, rdTT, rdTy, rdLT, Res.un, TT.un, Ty.un, LT.un, Leaf.un, Leaf.plain, LT.plain, q1]
    try simp -implicitDefEqProofs only [evs, reduceIte, rdRes, rdTT, rdTy, rdLT, Res.un, TT.un, Ty.un, LT.un, Leaf.un, Leaf.plain, LT.plain, ord_eta]
    rw [edge_ok h]
    try simp -implicitDefEqProofs only [evs, reduceIte, rdRes, rdTT, rdTy, rdLT, Res.un, TT.un, Ty.un, LT.un, Leaf.un, Leaf.plain, LT.plain, guardO_pos hfv, hL_new, hL_next, List.cons_append, List.nil_append, List.length_nil, List.length_cons, Nat.zero_add, Nat.reduceAdd]
    rw [w3]
    try simp -implicitDefEqProofs only [evs, reduceIte, rdRes, rdTT, rdTy, rdLT, Res.un, TT.un, Ty.un, LT.un, Leaf.un, Leaf.plain, LT.plain, hL_new, hL_next, List.cons_append, List.nil_append, List.length_nil, List.length_cons, Nat.zero_add, Nat.reduceAdd, q1']
    unfold blend_plans
    try simp -implicitDefEqProofs only [evs, reduceIte, rdRes, rdTT, rdTy, rdLT, Res.un, TT.un, Ty.un, LT.un, Leaf.un, Leaf.plain, LT.plain, hL_new, hL_newS, hL_next, List.cons_append, List.nil_append, List.length_nil, List.length_cons, Nat.zero_add, Nat.reduceAdd]
    rw [plans_call]
    unfold blend_plans_1
    have enn : V.nn (V.hp 5 6 0) = true := rfl
    have e51 : V.add (V.hp 5 6 0) 1 = V.hp 5 6 1 := rfl
    try simp -implicitDefEqProofs only [guardO_pos enn, e51, q5.2.1, Option.bind_some, rowSV_len, Int.toNat_natCast, zeros_u, hL_new, hL_next, List.cons_append, List.nil_append]
    rw [guardO_pos ⟨by omega, by omega, by unfold roomCells; omega, by omega, trivial⟩]
    obtain ⟨z, hz⟩ := plans_loop (T := T) (xs := xs) (o := o) (fv := fv) (m := m) (h := hL [oS o]) (h1 := hL [oS o, oS o]) (h2 := hL [oS o, oS o, oneS fv]) (h16 := hL [oS o, oS o, oneS fv, c2 (edgeOf xs o)]) (h20 := hL [oS o, oS o, oneS fv, c2 (edgeOf xs o), oneS (outV none), oS o]) (hh := hL [oS o, oS o, oneS fv, c2 (edgeOf xs o), oneS (outV none), oS o, .loop .ready]) h hb rfl rfl rfl rfl rfl rfl
    rw [← hlu] at hz
    generalize hbest : bestL m (keepsB xs o) (plansL o.2.1) = best at hz ⊢
    have hend := endL_hL (sl := PHs o fv (edgeOf xs o) best .ready z) (id := 6) rfl
    have qo := rd_out (sl := PHs o fv (edgeOf xs o) best .exhausted z) (id := 4) (b := best) rfl
    have qd := rd_dyn (sl := PHs o fv (edgeOf xs o) best .exhausted z) (id := 2) (v := fv) rfl
    simp only [oS, oneS, c2, uS, outV, List.set_cons_succ, List.set_cons_zero] at hz hend qo qd
    rw [hz]
    try simp -implicitDefEqProofs only [evs, reduceIte, rdRes, rdTT, rdTy, rdLT, Res.un, TT.un, Ty.un, LT.un, Leaf.un, Leaf.plain, LT.plain]
    rw [hend]
    try simp -implicitDefEqProofs only [evs, reduceIte, rdRes, rdTT, rdTy, rdLT, Res.un, TT.un, Ty.un, LT.un, Leaf.un, Leaf.plain, LT.plain]
    rw [qo]
    cases best with
    | none =>
      try simp -implicitDefEqProofs only [evs, reduceIte, rdRes, rdTT, rdTy, rdLT, Res.un, TT.un, Ty.un, LT.un, Leaf.un, Leaf.plain, LT.plain, outSV, V.mayNil, V.nn]
      exact ⟨_, rfl⟩
    | some a =>
      have hao := better_ok (m := m) h (L := plansL o.2.1) (fun u hu => plan_ok h hu) a hbest
      have hacall := fun (R : Type) (k : V → H → Option R) => hb (PHs o fv (edgeOf xs o) (some a) .exhausted z) rfl (rowSV true j1 a) a hao (rdRow_res (ls := j1) rfl) k
      simp only [rowSV_len, rowSV_cap, rowSV_tail, oS, oneS, c2, uS, outV] at hacall
      have hne : (cellsL j1 a).isEmpty = false := by
        have : (cellsL j1 a).length = a.length * 1 := flat_length (ls := j1) a
        cases hca : cellsL j1 a with
        | nil => rw [hca] at this; have := hao.len; have := h.l0; simp at *; omega
        | cons _ _ => rfl
      have m1 : V.mayNil (rowSV true j1 a).a = false := hne
      have m2 : V.nn (rowSV true j1 a).a = true := by
        show (!(cellsL j1 a).isEmpty) = true
        rw [hne]; rfl
      try simp -implicitDefEqProofs only [evs, reduceIte, rdRes, rdTT, rdTy, rdLT, Res.un, TT.un, Ty.un, LT.un, Leaf.un, Leaf.plain, LT.plain, outSV, m1, m2]
      rw [qd]
      try simp -implicitDefEqProofs only [evs, reduceIte, rdRes, rdTT, rdTy, rdLT, Res.un, TT.un, Ty.un, LT.un, Leaf.un, Leaf.plain, LT.plain]
      rw [hacall]
      try simp -implicitDefEqProofs only [evs, reduceIte, rdRes, rdTT, rdTy, rdLT, Res.un, TT.un, Ty.un, LT.un, Leaf.un, Leaf.plain, LT.plain, Res.pack, Ty.pack, Leaf.pack, eq_self]
      exact ⟨_, rfl⟩
  · rw [decide_eq_false hc, if_neg hc]
    try simp -implicitDefEqProofs only [evs, reduceIte, rdRes, rdTT, rdTy, rdLT, Res.un, TT.un, Ty.un, LT.un, Leaf.un, Leaf.plain, LT.plain]
    exact ⟨_, rfl⟩
theorem byBest {xs : List (Int × Int)} {o : OrdT} (h : OkO xs o) : ByOK blend_Best.tb (.func 34 [.hp 0 6 0]) (costO o) o := fun sl hs sv u hu hr R k => by
  have e : callQ blend_Best.tb.dy (.func 34 [.hp 0 6 0]) [.slice sv.a sv.len sv.cap sv.tail] (hL sl) k = (blend_Best_1.r sv (.hp 0 6 0) (hL sl)).bind fun p => k (.int .i64 p) (hL sl) := rfl
  rw [e]
  unfold blend_Best_1.r blend_Best_1
  try simp -implicitDefEqProofs only [rds_oS hs]
  try simp -implicitDefEqProofs only [evs, reduceIte, rdRes, rdTT, rdTy, rdLT, Res.un, TT.un, Ty.un, LT.un, Leaf.un, Leaf.plain, LT.plain, ord_eta, hr]
  rw [(costP_ok h hu).1]
  try simp -implicitDefEqProofs only [evs, reduceIte, rdRes, rdTT, rdTy, rdLT, Res.un, TT.un, Ty.un, LT.un, Leaf.un, Leaf.plain, LT.plain]
theorem byMost {xs : List (Int × Int)} {o : OrdT} (h : OkO xs o) : ByOK blend_Most.tb (.func 45 []) (fun u => -u.sum) o := fun sl hs sv u hu hr R k => by
  have e : callQ blend_Most.tb.dy (.func 45 []) [.slice sv.a sv.len sv.cap sv.tail] (hL sl) k = (blend_Most_1.r sv (hL sl)).bind fun p => k (.int .i64 p) (hL sl) := rfl
  have hb := sum_take_b (B := 64) (by omega) (hu.sm h).2 (hu.sm h).1 u.length
  rw [List.take_length] at hb
  rw [e]
  unfold blend_Most_1.r blend_Most_1
  try simp -implicitDefEqProofs only [hr]
  try simp -implicitDefEqProofs only [evs, reduceIte, rdRes, rdTT, rdTy, rdLT, Res.un, TT.un, Ty.un, LT.un, Leaf.un, Leaf.plain, LT.plain, hr]
  rw [(bsum_ok (hu.sm h)).1]
  try simp -implicitDefEqProofs only [evs, reduceIte, rdRes, rdTT, rdTy, rdLT, Res.un, TT.un, Ty.un, LT.un, Leaf.un, Leaf.plain, LT.plain]
  rw [i64_in _ (by omega), Int.zero_sub]
theorem Best_ok (xs : List (Int × Int)) (o : OrdT) : blend_BestP xs o = some (bestOf xs o) := by
  obtain ⟨sl, hf⟩ := first_ok (T := blend_Best.tb) (xs := xs) (o := o) (fv := .func 34 [.hp 0 6 0]) (m := costO o) byBest rfl
  have q1 := rds_oS (sl := [oS o]) (id := 0) (o := o) rfl
  simp only [oS] at q1 hf
  unfold blend_BestP blend_Best
  try simp -implicitDefEqProofs only [evs, reduceIte, rdRes, rdTT, rdTy, rdLT, Res.un, TT.un, Ty.un, LT.un, Leaf.un, Leaf.plain, LT.plain, hL_empty, hL_new, hL_next, List.nil_append, List.length_nil, q1]
  rw [hf]
  unfold bestOf bestO
  by_cases hc : bcheckOf xs o = 0
  · rw [if_pos hc, if_pos hc]
    cases bestL (costO o) (keepsB xs o) (plansL o.2.1) with
    | none => simp -implicitDefEqProofs only [evs, reduceIte, rdRes, rdTT, rdTy, rdLT, Res.un, TT.un, Ty.un, LT.un, Leaf.un, Leaf.plain, LT.plain, firstR]
    | some a =>
      have hrr : rdRow false (hL sl) j1 ⟨(rowSV true j1 a).a, a.length, a.length, true⟩ = some a := rdRow_res (ls := j1) rfl
      try simp -implicitDefEqProofs only [evs, reduceIte, rdRes, rdTT, rdTy, rdLT, Res.un, TT.un, Ty.un, LT.un, Leaf.un, Leaf.plain, LT.plain, firstR, hrr]
  · rw [if_neg hc, if_neg hc]
    try simp -implicitDefEqProofs only [evs, reduceIte, rdRes, rdTT, rdTy, rdLT, Res.un, TT.un, Ty.un, LT.un, Leaf.un, Leaf.plain, LT.plain]
theorem Most_ok (xs : List (Int × Int)) (o : OrdT) : blend_MostP xs o = some (mostOf xs o) := by
  obtain ⟨sl, hf⟩ := first_ok (T := blend_Most.tb) (xs := xs) (o := o) (fv := .func 45 []) (m := fun u => -u.sum) byMost rfl
  have q1 := rds_oS (sl := [oS o]) (id := 0) (o := o) rfl
  simp only [oS] at q1 hf
  unfold blend_MostP blend_Most
  try simp -implicitDefEqProofs only [evs, reduceIte, rdRes, rdTT, rdTy, rdLT, Res.un, TT.un, Ty.un, LT.un, Leaf.un, Leaf.plain, LT.plain, hL_empty, hL_new, hL_next, List.nil_append, List.length_nil, q1]
  rw [hf]
  unfold mostOf mostO
  by_cases hc : bcheckOf xs o = 0
  · have h := bcheck_iff.1 hc
    rw [if_pos hc, if_pos hc]
    cases hbest : bestL (fun u => -u.sum) (keepsB xs o) (plansL o.2.1) with
    | none =>
      try simp -implicitDefEqProofs only [evs, reduceIte, rdRes, rdTT, rdTy, rdLT, Res.un, TT.un, Ty.un, LT.un, Leaf.un, Leaf.plain, LT.plain, firstR]
      rfl
    | some a =>
      have hao := better_ok (m := fun u => -u.sum) h (L := plansL o.2.1) (fun u hu => plan_ok h hu) a hbest
      have hb := sum_take_b (B := 64) (by omega) (hao.sm h).2 (hao.sm h).1 a.length
      rw [List.take_length] at hb
      have hrr : rdRow false (hL sl) j1 ⟨(rowSV true j1 a).a, a.length, a.length, true⟩ = some a := rdRow_res (ls := j1) rfl
      try simp -implicitDefEqProofs only [evs, reduceIte, rdRes, rdTT, rdTy, rdLT, Res.un, TT.un, Ty.un, LT.un, Leaf.un, Leaf.plain, LT.plain, firstR, hrr]
      rw [i64_in _ (by omega), show (0 : Int) - -a.sum = a.sum by omega]
  · rw [if_neg hc, if_neg hc]
    try simp -implicitDefEqProofs only [evs, reduceIte, rdRes, rdTT, rdTy, rdLT, Res.un, TT.un, Ty.un, LT.un, Leaf.un, Leaf.plain, LT.plain]
    rfl
end Go.Proofs.Ytfkabibbaajfhaa
/- The cheapest units of a sum: what a bound is. Conditions: those of each law. -/
namespace Go.Proofs.Ytfkabibbaajfhaa
open Go Go.Proofs.Ytfkabibbaajfhaa.Ev
set_option linter.unusedVariables false
set_option linter.unusedSimpArgs false
set_option maxRecDepth 100000
set_option maxHeartbeats 4000000
/-- Each cost so often. -/
def expand (ps : List (Int × Int)) : List Int := ps.flatMap fun p => List.replicate p.2.toNat p.1
/-- In order. -/
def sortI (xs : List Int) : List Int := xs.mergeSort fun a b => decide (a ≤ b)
theorem sortI_perm (xs : List Int) : (sortI xs).Perm xs := List.mergeSort_perm _ _
theorem sortI_sorted (xs : List Int) : (sortI xs).Pairwise (· ≤ ·) := by
  have := List.pairwise_mergeSort (le := fun a b : Int => decide (a ≤ b)) (by intro a b c; simp; omega) (by intro a b; simp; omega) xs
  exact this.imp fun {a b} h => by simpa using h
theorem sortI_eq {xs ys : List Int} (hp : ys.Perm xs) (hs : ys.Pairwise (· ≤ ·)) : ys = sortI xs :=
  List.Perm.eq_of_pairwise (le := (· ≤ ·)) (fun a b _ _ h1 h2 => Int.le_antisymm h1 h2) hs (sortI_sorted xs) (hp.trans (sortI_perm xs).symm)
theorem sum_rep (n : Nat) (c : Int) : (List.replicate n c).sum = n * c := by
  induction n with
  | zero => simp
  | succ n ih => rw [List.replicate_succ, List.sum_cons, ih, Int.natCast_add, Int.natCast_one, Int.add_mul, Int.one_mul]; omega
theorem expand_cons (p : Int × Int) (ps : List (Int × Int)) : expand (p :: ps) = List.replicate p.2.toNat p.1 ++ expand ps := rfl
theorem expand_sorted : ∀ {ps : List (Int × Int)}, ps.Pairwise (fun a b => a.1 ≤ b.1) → (expand ps).Pairwise (· ≤ ·)
  | [], _ => List.Pairwise.nil
  | p :: ps, h => by
    rw [expand_cons, List.pairwise_append]
    obtain ⟨h1, h2⟩ := List.pairwise_cons.1 h
    refine ⟨List.pairwise_replicate.2 (.inr (Int.le_refl _)), expand_sorted h2, fun a ha b hb => ?_⟩
    rw [List.eq_of_mem_replicate ha]
    obtain ⟨q, hq, hb⟩ := List.mem_flatMap.1 hb
    rw [List.eq_of_mem_replicate hb]
    exact h1 q hq
theorem expand_perm {ps qs : List (Int × Int)} (h : ps.Perm qs) : (expand ps).Perm (expand qs) := h.flatMap_right _
/-- Taking the cheapest ones, row by row. -/
def greedy (st : Int × Int) (p : Int × Int) : Int × Int := (st.1 - min st.1 p.2, st.2 + min st.1 p.2 * p.1)
theorem greedy_ok : ∀ (ps : List (Int × Int)) (need all : Int), 0 ≤ need → (∀ p ∈ ps, 0 ≤ p.2) → (ps.foldl greedy (need, all)).2 = all + ((expand ps).take need.toNat).sum
  | [], need, all, _, _ => by simp [expand]
  | p :: ps, need, all, hn, h => by
    have hp := h p (by simp)
    rw [List.foldl_cons]
    have ih := greedy_ok ps (need - min need p.2) (all + min need p.2 * p.1) (by omega) fun q hq => h q (by simp [hq])
    show (ps.foldl greedy (need - min need p.2, all + min need p.2 * p.1)).2 = _
    rw [ih, expand_cons, List.take_append, List.length_replicate, List.take_replicate, List.sum_append, sum_rep, show ((min need.toNat p.2.toNat : Nat) : Int) = min need p.2 by omega, show (need - min need p.2).toNat = need.toNat - p.2.toNat by omega]
    omega
theorem sum_perm {xs ys : List Int} (h : xs.Perm ys) : xs.sum = ys.sum := by
  induction h with
  | nil => rfl
  | cons x _ ih => simp only [List.sum_cons, ih]
  | swap x y l => simp only [List.sum_cons]; omega
  | trans _ _ h1 h2 => exact h1.trans h2
/-- So many of a sorted list sum to no more than so many others. -/
theorem cheapest : ∀ (E A B : List Int) (k : Nat), E.Pairwise (· ≤ ·) → (A ++ B).Perm E → k ≤ A.length → (∀ x ∈ E, 0 ≤ x) → (E.take k).sum ≤ A.sum
  | E, A, B, 0, _, hp, _, h0 => by
    have : 0 ≤ A.sum := sum_nonneg fun x hx => h0 x (hp.mem_iff.1 (by simp [hx]))
    simpa using this
  | [], A, B, k + 1, _, hp, hk, _ => by
    have := hp.length_eq
    rw [List.length_append, List.length_nil] at this
    omega
  | e :: E, A, B, k + 1, hs, hp, hk, h0 => by
    obtain ⟨s1, s2⟩ := List.pairwise_cons.1 hs
    rw [List.take_succ_cons, List.sum_cons]
    by_cases hA : e ∈ A
    · have pA := List.perm_cons_erase hA
      have p1 : (A.erase e ++ B).Perm E := by
        have : (e :: (A.erase e ++ B)).Perm (e :: E) := (pA.symm.append_right B).trans hp
        exact this.cons_inv
      have ih := cheapest E (A.erase e) B k s2 p1 (by rw [List.length_erase_of_mem hA]; omega) fun x hx => h0 x (by simp [hx])
      rw [sum_perm pA, List.sum_cons]
      omega
    · have hB : e ∈ B := by
        have : e ∈ A ++ B := hp.mem_iff.2 (by simp)
        rcases List.mem_append.1 this with h | h
        · exact absurd h hA
        · exact h
      have pB := List.perm_cons_erase hB
      cases A with
      | nil => simp at hk
      | cons a A =>
        have ha : e ≤ a := by
          have : a ∈ e :: E := hp.mem_iff.1 (by simp)
          rcases List.mem_cons.1 this with h | h
          · omega
          · exact s1 a h
        have p1 : (A ++ (a :: B.erase e)).Perm E := by
          have h1 : ((a :: A) ++ B).Perm (e :: (A ++ (a :: B.erase e))) := by
            refine (pB.append_left (a :: A)).trans ?_
            refine List.perm_middle.trans (List.Perm.cons e ?_)
            exact List.perm_middle.symm
          exact (h1.symm.trans hp).cons_inv
        have ih := cheapest E A (a :: B.erase e) k s2 p1 (by simpa using hk) fun x hx => h0 x (by simp [hx])
        rw [List.sum_cons]
        omega
/-- The costs of some units, one by one. -/
def items (c u : List Int) : List (Int × Int) := c.zip u
theorem items_len : ∀ (c u : List Int), u.length = c.length → (∀ x ∈ u, 0 ≤ x) → ((expand (items c u)).length : Int) = u.sum
  | [], [], _, _ => rfl
  | [], x :: u, h, _ => by simp at h
  | c :: cs, [], h, _ => by simp at h
  | c :: cs, x :: u, h, h0 => by
    have ih := items_len cs u (by simpa using h) fun y hy => h0 y (by simp [hy])
    have hx := h0 x (by simp)
    have e2 : items (c :: cs) (x :: u) = (c, x) :: items cs u := rfl
    rw [e2, expand_cons, List.length_append, List.length_replicate, Int.natCast_add, ih, List.sum_cons, show ((x.toNat : Nat) : Int) = x by omega]
def boundV (o : OrdT) : Int := ((sortI (expand (items o.2.2.1 o.2.1))).take o.2.2.2.2.2.toNat).sum
noncomputable def boundOf (xs : List (Int × Int)) (o : OrdT) : Int × Int := if bcheckOf xs o = 0 then (if o.2.1.sum < o.2.2.2.2.2 then (0, 20) else (boundV o, 0)) else (0, 1)
end Go.Proofs.Ytfkabibbaajfhaa
/- A block of pairs that is sorted: the small steps. Conditions: those of each law. -/
namespace Go.Proofs.Ytfkabibbaajfhaa
open Go Go.Proofs.Ytfkabibbaajfhaa.Ev
set_option linter.unusedVariables false
set_option linter.unusedSimpArgs false
set_option maxRecDepth 100000
set_option maxHeartbeats 4000000
/-- One pair of a list. -/
def gq (xs : List (Int × Int)) (k : Nat) : Int × Int := (xs[k]?).getD (0, 0)
theorem gq_some {xs : List (Int × Int)} {k : Nat} (h : k < xs.length) : xs[k]? = some (gq xs k) := by
  rw [gq, List.getElem?_eq_getElem h]; rfl
theorem gq_eq {xs : List (Int × Int)} {k : Nat} (h : k < xs.length) : gq xs k = xs[k] := by rw [gq, List.getElem?_eq_getElem h]; rfl
theorem gq_set {xs : List (Int × Int)} {i k : Nat} {x : Int × Int} (h : i < xs.length) : gq (xs.set i x) k = if k = i then x else gq xs k := by
  unfold gq
  by_cases e : k = i
  · subst e; simp [h]
  · rw [if_neg e, List.getElem?_set_ne (by omega)]
/-- Two pairs change places. -/
def swq (i j : Nat) (xs : List (Int × Int)) : List (Int × Int) := (xs.set i (gq xs j)).set j (gq xs i)
theorem swq_length {i j : Nat} {xs : List (Int × Int)} : (swq i j xs).length = xs.length := by simp [swq]
theorem gq_swq {i j k : Nat} {xs : List (Int × Int)} (hi : i < xs.length) (hj : j < xs.length) : gq (swq i j xs) k = if k = j then gq xs i else if k = i then gq xs j else gq xs k := by
  unfold swq
  rw [gq_set (by simpa using hj), gq_set hi]
theorem swq_perm {i j : Nat} {xs : List (Int × Int)} (hi : i < xs.length) (hj : j < xs.length) : (swq i j xs).Perm xs := by
  have := List.set_set_perm hi hj
  unfold swq
  rw [gq_eq hj, gq_eq hi]
  exact this
abbrev q1j : List Leaf := [.int .i64, .int .i64]
/-- The heap with these pairs in a block. -/
def hQ (sl : List Slot) (id e : Nat) (xs : List (Int × Int)) : H := hL (sl.set id (.own (cellsL q1j xs) e))
/-- A slice of the first ones of a block of N pairs. -/
abbrev sQ (id N n c : Nat) (t : Bool) : SV := ⟨.hp id (N * 2) 0, n, c, t⟩
theorem sQ_a {id N n c : Nat} {t : Bool} : (sQ id N n c t).a = .hp id (N * 2) 0 := congrArg SV.a (Eq.refl (sQ id N n c t))
theorem sQ_len {id N n c : Nat} {t : Bool} : (sQ id N n c t).len = n := congrArg SV.len (Eq.refl (sQ id N n c t))
theorem packQ (x : Int) : Res.pack (.one (.leaf (.int .i64))) (.int .i64 x) = some x := rfl
theorem add_hpQ {id n k : Nat} : V.add (.hp id n 0) k = .hp id n k := by simp [V.add]
section steps
variable {sl : List Slot} {id e N : Nat} (hid : id < sl.length)
include hid
theorem rdQ {xs : List (Int × Int)} {k : Nat} (hn : xs.length = N) (hk : k < N) : rdT (.agg [.int .i64, .int .i64]) (hQ sl id e xs) (V.add (.hp id (N * 2) 0) (k * 2)) = some (gq xs k) := by
  rw [add_hpQ]
  have := rds_ownL (ls := q1j) (ms := q1j) (xs := xs) (sl := sl.set id (.own (cellsL q1j xs) e)) (id := id) (e := e) (n := N * 2) (i := k) (w := 2) (by simp [hid]) (by simp [hn]) rfl rfl (by omega)
  unfold hQ
  rw [this, gq_some (by omega)]
  rfl
theorem wrQ {xs : List (Int × Int)} {k : Nat} {x : Int × Int} (hn : xs.length = N) (hk : k < N) : H.wrs (hQ sl id e xs) (V.add (.hp id (N * 2) 0) (k * 2)) [.int .i64 x.1, .int .i64 x.2] = some (hQ sl id e (xs.set k x)) := by
  rw [add_hpQ]
  have := wrs_ownL (ls := q1j) (xs := xs) (sl := sl.set id (.own (cellsL q1j xs) e)) (id := id) (e := e) (n := N * 2) (i := k) (w := 2) (x := x) (vs := [.int .i64 x.1, .int .i64 x.2]) (by simp [hid]) (by simp [hn]) rfl (by omega) rfl
  unfold hQ
  rw [this]
  simp [List.set_set]
end steps
theorem i64q {m : Nat} {z : Int} (h : z = (m : Int)) (hm : m < 9223372036854775808) : IntKind.i64.wrap z = (m : Int) := by rw [h]; exact i64_nat hm
/-- A comparison that leaves the heap as it is. -/
def CmpQ (T : Table) (v : V) (sl : List Slot) (id e N : Nat) (D : Int × Int → Prop) (c : Int × Int → Int × Int → Int) : Prop :=
  ∀ (x y : Int × Int) (xs : List (Int × Int)), D x → D y → xs.length = N → ∀ {R : Type} (k : V → H → Option R), callV T.dy v [.agg [.int .i64 x.1, .int .i64 x.2], .agg [.int .i64 y.1, .int .i64 y.2]] (hQ sl id e xs) k = k (.int .i64 (c x y)) (hQ sl id e xs)
/-- What the comparison of a later element with an earlier one says of the order. -/
def SaysQ (c : Int × Int → Int × Int → Int) (lt : Int × Int → Int × Int → Prop) (later earlier : Int × Int) : Prop := (c later earlier < 0 → lt later earlier) ∧ (¬ c later earlier < 0 → lt earlier later)
end Go.Proofs.Ytfkabibbaajfhaa
/- Insertion sort of pairs. Conditions: those of each law. -/
namespace Go.Proofs.Ytfkabibbaajfhaa
open Go Go.Proofs.Ytfkabibbaajfhaa.Ev
set_option linter.unusedVariables false
set_option linter.unusedSimpArgs false
set_option maxRecDepth 100000
set_option maxHeartbeats 4000000
section sort
variable {T : Table} {v : V} {sl : List Slot} {id e N n cp : Nat} {t : Bool} {D : Int × Int → Prop} {c : Int × Int → Int × Int → Int} {lt : Int × Int → Int × Int → Prop}
theorem insQ_inner (hid : id < sl.length) (hn63 : N < 4611686018427387904) (hc : CmpQ T v sl id e N D c) (htr : ∀ x y z, lt x y → lt y z → lt x z) {xs : List (Int × Int)} (hn : xs.length = N) (hnN : n ≤ N) {a i : Nat} (hai : a ≤ i) (hi : i < n)
    (hD : ∀ k, a ≤ k → k ≤ i → D (gq xs k)) (hs : ∀ p q, a ≤ p → p < q → q < i → lt (gq xs p) (gq xs q)) (hcmp : ∀ p, a ≤ p → p < i → SaysQ c lt (gq xs i) (gq xs p)) :
    ∃ ys, iter FUEL (slices_insertionSortCmpFunc_2_int.loop1 T (sQ id N n cp t) (a : Int) v) ((i : Int), hQ sl id e xs) = some (.ex0 (), hQ sl id e ys) ∧ ys.length = N ∧ ys.Perm xs ∧ (∀ p, ¬ (a ≤ p ∧ p ≤ i) → gq ys p = gq xs p) ∧
      (∀ p, a ≤ p → p ≤ i → ∃ p', a ≤ p' ∧ p' ≤ i ∧ gq ys p = gq xs p') ∧ ∀ p q, a ≤ p → p < q → q ≤ i → lt (gq ys p) (gq ys q) := by
  obtain ⟨r, hr, hp⟩ := iter_inv (f := slices_insertionSortCmpFunc_2_int.loop1 T (sQ id N n cp t) (a : Int) v)
    (Inv := fun st => ∃ (j : Nat) (ys : List (Int × Int)), st = ((j : Int), hQ sl id e ys) ∧ a ≤ j ∧ j ≤ i ∧ ys.length = N ∧ ys.Perm xs ∧ (∀ p, ¬ (a ≤ p ∧ p ≤ i) → gq ys p = gq xs p) ∧ gq ys j = gq xs i ∧
      (∀ p, a ≤ p → p ≤ i → p ≠ j → ∃ p', a ≤ p' ∧ p' < i ∧ gq ys p = gq xs p') ∧ (∀ p q, a ≤ p → p < q → q ≤ i → p ≠ j → q ≠ j → lt (gq ys p) (gq ys q)) ∧ ∀ q, j < q → q ≤ i → lt (gq ys j) (gq ys q))
    (Post := fun r => ∃ ys, r = (.ex0 (), hQ sl id e ys) ∧ ys.length = N ∧ ys.Perm xs ∧ (∀ p, ¬ (a ≤ p ∧ p ≤ i) → gq ys p = gq xs p) ∧
      (∀ p, a ≤ p → p ≤ i → ∃ p', a ≤ p' ∧ p' ≤ i ∧ gq ys p = gq xs p') ∧ ∀ p q, a ≤ p → p < q → q ≤ i → lt (gq ys p) (gq ys q))
    (fun st => st.1.toNat) (fun st hi' => by
      obtain ⟨j, ys, rfl, haj, hji, hl, hpm, hout, hj, hE, hso, hbe⟩ := hi'
      have hE' : ∀ p, a ≤ p → p ≤ i → ∃ p', a ≤ p' ∧ p' ≤ i ∧ gq ys p = gq xs p' := fun p h1 h2 => by
        by_cases ee : p = j
        · subst ee; exact ⟨i, hai, Nat.le_refl _, hj⟩
        · obtain ⟨p', k1, k2, k3⟩ := hE p h1 h2 ee; exact ⟨p', k1, by omega, k3⟩
      by_cases hlt : a < j
      · have hDj : D (gq ys j) := by rw [hj]; exact hD i hai (Nat.le_refl _)
        obtain ⟨p', e1, e2, e3⟩ := hE (j - 1) (by omega) (by omega) (by omega)
        have hDp : D (gq ys (j - 1)) := by rw [e3]; exact hD p' e1 (by omega)
        have hsays : SaysQ c lt (gq ys j) (gq ys (j - 1)) := by rw [hj, e3]; exact hcmp p' e1 e2
        by_cases hless : c (gq ys j) (gq ys (j - 1)) < 0
        · left
          have hlt2 := hsays.1 hless
          refine ⟨(((j - 1 : Nat) : Int), hQ sl id e (swq j (j - 1) ys)), ?_, ⟨j - 1, _, rfl, by omega, by omega, by rw [swq_length, hl], (swq_perm (by omega) (by omega)).trans hpm, fun p hp => ?_, ?_, fun p h1 h2 h3 => ?_, fun p q h1 h2 h3 h4 h5 => ?_, fun q h1 h2 => ?_⟩, by simp only [Int.toNat_natCast]; omega⟩
          · unfold slices_insertionSortCmpFunc_2_int.loop1
            try simp -implicitDefEqProofs only [reserve0, sQ_a, sQ_len]
            rw [decide_eq_true (by omega), cond_true, i64q (z := (j : Int) - 1) (m := j - 1) (by omega) (by omega), Int.toNat_natCast, Int.toNat_natCast, guardO_pos (by omega), rdQ hid hl (by omega)]
            try simp -implicitDefEqProofs only [Option.bind_some]
            rw [guardO_pos (by omega), rdQ hid hl (by omega)]
            try simp -implicitDefEqProofs only [Option.bind_some]
            rw [hc _ _ ys hDj hDp hl]
            try simp -implicitDefEqProofs only [packQ, Option.bind_some]
            rw [decide_eq_true hless]
            try simp -implicitDefEqProofs only [cond_true]
            rw [guardO_pos (by omega), rdQ hid hl (by omega)]
            try simp -implicitDefEqProofs only [Option.bind_some]
            rw [guardO_pos (by omega), rdQ hid hl (by omega)]
            try simp -implicitDefEqProofs only [Option.bind_some]
            rw [guardO_pos (by omega), wrQ hid hl (by omega)]
            try simp -implicitDefEqProofs only [Option.bind_some]
            rw [guardO_pos (by omega), wrQ hid (by simpa using hl) (by omega)]
            rfl
          · rw [gq_swq (by omega) (by omega), if_neg (by omega), if_neg (by omega)]
            exact hout p hp
          · rw [gq_swq (by omega) (by omega), if_pos rfl, hj]
          · rw [gq_swq (by omega) (by omega), if_neg h3]
            by_cases ee : p = j
            · subst ee; rw [if_pos rfl]; exact ⟨p', e1, e2, e3⟩
            · rw [if_neg ee]; exact hE p h1 h2 ee
          · rw [gq_swq (by omega) (by omega), gq_swq (by omega) (by omega), if_neg h4, if_neg h5]
            by_cases ee : p = j
            · subst ee
              rw [if_pos rfl, if_neg (by omega)]
              exact hso (p - 1) q (by omega) (by omega) h3 (by omega) (by omega)
            · rw [if_neg ee]
              by_cases e' : q = j
              · subst e'
                rw [if_pos rfl]
                exact hso p (q - 1) h1 (by omega) (by omega) (by omega) (by omega)
              · rw [if_neg e']
                exact hso p q h1 h2 h3 ee e'
          · rw [gq_swq (by omega) (by omega), gq_swq (by omega) (by omega), if_pos rfl, if_neg (by omega)]
            by_cases ee : q = j
            · subst ee; rw [if_pos rfl]; exact hlt2
            · rw [if_neg ee]; exact hbe q (by omega) h2
        · right
          refine ⟨(.ex0 (), hQ sl id e ys), ?_, ys, rfl, hl, hpm, hout, hE', fun p q h1 h2 h3 => ?_⟩
          · unfold slices_insertionSortCmpFunc_2_int.loop1
            try simp -implicitDefEqProofs only [reserve0, sQ_a, sQ_len]
            rw [decide_eq_true (by omega), cond_true, i64q (z := (j : Int) - 1) (m := j - 1) (by omega) (by omega), Int.toNat_natCast, Int.toNat_natCast, guardO_pos (by omega), rdQ hid hl (by omega)]
            try simp -implicitDefEqProofs only [Option.bind_some]
            rw [guardO_pos (by omega), rdQ hid hl (by omega)]
            try simp -implicitDefEqProofs only [Option.bind_some]
            rw [hc _ _ ys hDj hDp hl]
            try simp -implicitDefEqProofs only [packQ, Option.bind_some]
            rw [decide_eq_false hless]
            rfl
          · have hge := hsays.2 hless
            by_cases ee : q = j
            · subst ee
              by_cases e' : p = q - 1
              · subst e'; exact hge
              · exact htr _ _ _ (hso p (q - 1) h1 (by omega) (by omega) (by omega) (by omega)) hge
            · by_cases e' : p = j
              · subst e'; exact hbe q h2 h3
              · exact hso p q h1 h2 h3 e' ee
      · right
        refine ⟨(.ex0 (), hQ sl id e ys), ?_, ys, rfl, hl, hpm, hout, hE', fun p q h1 h2 h3 => ?_⟩
        · unfold slices_insertionSortCmpFunc_2_int.loop1
          try simp -implicitDefEqProofs only [reserve0]
          rw [decide_eq_false (by omega)]
          rfl
        · by_cases e' : p = j
          · subst e'; exact hbe q h2 h3
          · exact hso p q h1 h2 h3 e' (by omega)) FUEL ((i : Int), hQ sl id e xs)
    ⟨i, xs, rfl, hai, Nat.le_refl _, hn, .refl _, fun _ _ => rfl, rfl, fun p h1 h2 h3 => ⟨p, h1, by omega, rfl⟩, fun p q h1 h2 h3 h4 h5 => hs p q h1 h2 (by omega), fun q h1 h2 => by omega⟩ (fuel_gt (by
      simp only [Int.toNat_natCast]
      omega))
  obtain ⟨ys, rfl, k⟩ := hp
  exact ⟨ys, hr, k⟩
theorem insQ_ok (hid : id < sl.length) (hn63 : N < 4611686018427387904) (hc : CmpQ T v sl id e N D c) (htr : ∀ x y z, lt x y → lt y z → lt x z) {xs : List (Int × Int)} (hn : xs.length = N) (hnN : n ≤ N) {a b : Nat} (hab : a ≤ b) (hb : b ≤ n)
    (hD : ∀ k, a ≤ k → k < b → D (gq xs k)) (hcmp : ∀ p q, a ≤ p → p < q → q < b → SaysQ c lt (gq xs q) (gq xs p)) :
    ∃ ys, slices_insertionSortCmpFunc_2_int T (sQ id N n cp t) (a : Int) (b : Int) v (hQ sl id e xs) = some ((), hQ sl id e ys) ∧ ys.length = N ∧ ys.Perm xs ∧ (∀ p, ¬ (a ≤ p ∧ p < b) → gq ys p = gq xs p) ∧
      (∀ p, a ≤ p → p < b → ∃ p', a ≤ p' ∧ p' < b ∧ gq ys p = gq xs p') ∧ ∀ p q, a ≤ p → p < q → q < b → lt (gq ys p) (gq ys q) := by
  obtain ⟨r, hr, hp⟩ := iter_inv (f := slices_insertionSortCmpFunc_2_int.loop2 T (sQ id N n cp t) (a : Int) (b : Int) v)
    (Inv := fun st => ∃ (i : Nat) (ys : List (Int × Int)), st = ((i : Int), hQ sl id e ys) ∧ a < i ∧ (i ≤ b ∨ i = a + 1) ∧ ys.length = N ∧ ys.Perm xs ∧ (∀ p, ¬ (a ≤ p ∧ p < i ∧ p < b) → gq ys p = gq xs p) ∧
      (∀ p, a ≤ p → p < i → p < b → ∃ p', a ≤ p' ∧ p' < i ∧ p' < b ∧ gq ys p = gq xs p') ∧ ∀ p q, a ≤ p → p < q → q < i → q < b → lt (gq ys p) (gq ys q))
    (Post := fun r => ∃ ys, r = (.ex0 (), hQ sl id e ys) ∧ ys.length = N ∧ ys.Perm xs ∧ (∀ p, ¬ (a ≤ p ∧ p < b) → gq ys p = gq xs p) ∧
      (∀ p, a ≤ p → p < b → ∃ p', a ≤ p' ∧ p' < b ∧ gq ys p = gq xs p') ∧ ∀ p q, a ≤ p → p < q → q < b → lt (gq ys p) (gq ys q))
    (fun st => n + 1 - st.1.toNat) (fun st hi' => by
      obtain ⟨i, ys, rfl, hai, hib, hl, hpm, hout, hE, hso⟩ := hi'
      by_cases hlt : i < b
      · left
        obtain ⟨zs, h1, h2, h3, h4, h5, h6⟩ := insQ_inner (t := t) hid hn63 hc htr hl hnN (a := a) (i := i) (by omega) (by omega) (fun k k1 k2 => by
            by_cases ee : k < i
            · obtain ⟨p', e1, e2, e3, e4⟩ := hE k k1 ee (by omega)
              rw [e4]; exact hD p' e1 e3
            · rw [hout k (by omega)]; exact hD k k1 (by omega)) (fun p q k1 k2 k3 => hso p q k1 k2 k3 (by omega)) (fun p k1 k2 => by
            obtain ⟨p', e1, e2, e3, e4⟩ := hE p k1 k2 (by omega)
            rw [e4, hout i (by omega)]
            exact hcmp p' i e1 e2 hlt)
        refine ⟨(((i + 1 : Nat) : Int), hQ sl id e zs), ?_, ⟨i + 1, zs, rfl, by omega, by omega, h2, h3.trans hpm, fun p hp => ?_, fun p k1 k2 k3 => ?_, fun p q k1 k2 k3 k4 => h6 p q k1 k2 (by omega)⟩, by simp only [Int.toNat_natCast]; omega⟩
        · unfold slices_insertionSortCmpFunc_2_int.loop2
          try simp -implicitDefEqProofs only []
          rw [decide_eq_true (by omega), cond_true, h1]
          try simp -implicitDefEqProofs only [Option.bind_some]
          rw [i64_succ (by omega)]
        · rw [h4 p (by omega), hout p (by omega)]
        · obtain ⟨p', e1, e2, e3⟩ := h5 p k1 (by omega)
          rw [e3]
          by_cases ee : p' < i
          · obtain ⟨p2, f1, f2, f3, f4⟩ := hE p' e1 ee (by omega)
            exact ⟨p2, f1, by omega, f3, f4⟩
          · exact ⟨p', e1, by omega, by omega, hout p' (by omega)⟩
      · right
        refine ⟨(.ex0 (), hQ sl id e ys), ?_, ys, rfl, hl, hpm, fun p hp => hout p (by omega), fun p k1 k2 => ?_, fun p q k1 k2 k3 => hso p q k1 k2 (by omega) k3⟩
        · unfold slices_insertionSortCmpFunc_2_int.loop2
          try simp -implicitDefEqProofs only []
          rw [decide_eq_false (by omega)]
          rfl
        · obtain ⟨p', e1, e2, e3, e4⟩ := hE p k1 (by omega) k2
          exact ⟨p', e1, e3, e4⟩) FUEL (((a + 1 : Nat) : Int), hQ sl id e xs)
    ⟨a + 1, xs, rfl, by omega, .inr rfl, hn, .refl _, fun _ _ => rfl, fun p h1 h2 h3 => ⟨p, h1, h2, h3, rfl⟩, fun p q h1 h2 h3 h4 => by omega⟩ (fuel_gt (by
      simp only [Int.toNat_natCast]
      omega))
  obtain ⟨ys, rfl, k⟩ := hp
  refine ⟨ys, ?_, k⟩
  unfold slices_insertionSortCmpFunc_2_int
  rw [i64q (z := (a : Int) + 1) (m := a + 1) (by omega) (by omega), hr]
  rfl
end sort
end Go.Proofs.Ytfkabibbaajfhaa
/- Bound of package blend and of its reference. Conditions: those of each law. -/
namespace Go.Proofs.Ytfkabibbaajfhaa
open Go Go.Proofs.Ytfkabibbaajfhaa.Ev
set_option linter.unusedVariables false
set_option linter.unusedSimpArgs false
set_option maxRecDepth 100000
set_option maxHeartbeats 4000000
/-- An array of pairs. -/
abbrev aS (ys : List (Int × Int)) : Slot := .own (cellsL q1j ys) 8
theorem rd_a {sl : List Slot} {id k : Nat} {ys : List (Int × Int)} (hs : sl[id]? = some (aS ys)) (hn : ys.length = 4) (hk : k < 4) : rdT (.agg [.int .i64, .int .i64]) (hL sl) (.hp id 8 (k * 2)) = some (gq ys k) := by
  rw [rds_ownL (ls := q1j) (ms := q1j) (xs := ys) (e := 8) (n := 8) (i := k) (w := 2) hs (by rw [hn]; rfl) rfl rfl (by omega), gq_some (by omega)]
  rfl
theorem wr_a {sl : List Slot} {id k : Nat} {ys : List (Int × Int)} {x : Int × Int} (hs : sl[id]? = some (aS ys)) (hn : ys.length = 4) (hk : k < 4) : H.wrs (hL sl) (.hp id 8 (k * 2)) [.int .i64 x.1, .int .i64 x.2] = some (hL (sl.set id (aS (ys.set k x)))) :=
  wrs_ownL (ls := q1j) (xs := ys) (e := 8) (n := 8) (i := k) (w := 2) (x := x) hs (by rw [hn]; rfl) rfl (by omega) rfl
/-- The array while it is filled. -/
def fillA (ps : List (Int × Int)) (i : Nat) : List (Int × Int) := ps.take i ++ List.replicate (4 - i) (0, 0)
theorem fillA_len {ps : List (Int × Int)} {i : Nat} (h : i ≤ ps.length) (h4 : i ≤ 4) : (fillA ps i).length = 4 := by
  unfold fillA
  rw [List.length_append, List.length_take, List.length_replicate]
  omega
theorem fillA_succ {ps : List (Int × Int)} {i : Nat} (h : i < ps.length) (h4 : i < 4) : (fillA ps i).set i ps[i] = fillA ps (i + 1) := by
  unfold fillA
  have h1 : (ps.take i).length = i := by rw [List.length_take]; omega
  rw [List.set_append_right _ _ (by omega), h1, Nat.sub_self, show 4 - i = (4 - (i + 1)) + 1 by omega, List.replicate_succ, List.set_cons_zero, ← List.take_append_getElem h, List.append_assoc]
  rfl
theorem items_get {c u : List Int} {i : Nat} (h1 : i < c.length) (h2 : i < u.length) : ∃ h : i < (items c u).length, (items c u)[i] = (c[i], u[i]) := ⟨by unfold items; rw [List.length_zip]; omega, by unfold items; simp⟩
theorem bound_fill {o : OrdT} (h1 : o.2.1.length = o.2.2.1.length) (h4 : o.2.1.length ≤ 4) : iter FUEL (blend_Bound.loop1 (hL []) (hL [oS o]) (rowSV false j1 o.2.1)) ((0 : Int), hL [oS o, aS (List.replicate 4 (0, 0))]) = some (.ex0 (), hL [oS o, aS (fillA (items o.2.2.1 o.2.1) o.2.1.length)]) := by
  have hil : (items o.2.2.1 o.2.1).length = o.2.1.length := by unfold items; rw [List.length_zip]; omega
  refine iter_from (fun i => ((i : Int), hL [oS o, aS (fillA (items o.2.2.1 o.2.1) i)])) rfl o.2.1.length FUEL (fun i hi => ?_) ?_ (fuel_gt (by omega))
  · have r0 := rd_oS (sl := [oS o, aS (fillA (items o.2.2.1 o.2.1) i)]) (id := 0) (o := o) rfl
    have hg1 : 0 ≤ (i : Int) ∧ (i : Int) < (o.2.1.length : Int) := by omega
    have hg2 : 0 ≤ (i : Int) ∧ (i : Int) < (o.2.2.1.length : Int) := by omega
    have hg4 : V.nn (V.hp 1 8 0) = true ∧ 0 ≤ (i : Int) ∧ (i : Int) < ((4 : Nat) : Int) := ⟨rfl, by omega, by omega⟩
    obtain ⟨hi2, hget⟩ := items_get (c := o.2.2.1) (u := o.2.1) (i := i) (by omega) hi
    have w1 := wr_a (sl := [oS o, aS (fillA (items o.2.2.1 o.2.1) i)]) (id := 1) (k := i) (x := (o.2.2.1[i]'(by omega), o.2.1[i])) rfl (fillA_len (by omega) (by omega)) (by omega)
    rw [← hget, fillA_succ hi2 (by omega), hget] at w1
    simp only [List.set_cons_succ, List.set_cons_zero] at w1
    unfold blend_Bound.loop1
    try simp -implicitDefEqProofs only [evs, reduceIte, rdRes, rdTT, rdTy, rdLT, Res.un, TT.un, Ty.un, LT.un, Leaf.un, Leaf.plain, LT.plain, Int.toNat_natCast, guardO_pos hg1, hL_next, List.length_nil, List.length_cons, Nat.zero_add, r0.2.2.1]
    rw [decide_eq_true hg1.2, cond_true, rd_rowI, List.getElem?_eq_getElem hi]
    try simp -implicitDefEqProofs only [evs, reduceIte, rdRes, rdTT, rdTy, rdLT, Res.un, TT.un, Ty.un, LT.un, Leaf.un, Leaf.plain, LT.plain, guardO_pos hg2]
    rw [rd_rowI, List.getElem?_eq_getElem (show i < o.2.2.1.length by omega)]
    try simp -implicitDefEqProofs only [evs, reduceIte, rdRes, rdTT, rdTy, rdLT, Res.un, TT.un, Ty.un, LT.un, Leaf.un, Leaf.plain, LT.plain]
    rw [guardO_pos hg4, w1]
    try simp -implicitDefEqProofs only [evs, reduceIte, rdRes, rdTT, rdTy, rdLT, Res.un, TT.un, Ty.un, LT.un, Leaf.un, Leaf.plain, LT.plain]
    rw [i64_succ (by omega)]
  · unfold blend_Bound.loop1
    try simp -implicitDefEqProofs only [rowSV_len]
    rw [decide_eq_false (by omega), cond_false]
theorem bcmp_ok (x y : Int × Int) : blend_Bound_1P x y = some (IntKind.wrap .i64 (x.1 - y.1)) := by
  obtain ⟨a, b⟩ := x
  obtain ⟨c, d⟩ := y
  have r0 := rd_c2 (sl := [c2 (a, b), c2 (c, d)]) (id := 0) (x := (a, b)) rfl
  have r1 := rd_c2 (sl := [c2 (a, b), c2 (c, d)]) (id := 1) (x := (c, d)) rfl
  simp only [c2] at r0 r1
  unfold blend_Bound_1P blend_Bound_1
  try simp -implicitDefEqProofs only [evs, reduceIte, rdRes, rdTT, rdTy, rdLT, Res.un, TT.un, Ty.un, LT.un, Leaf.un, Leaf.plain, LT.plain, hL_empty, hL_new, hL_next, List.nil_append, List.length_nil, List.length_cons, List.cons_append, Nat.zero_add, Nat.reduceAdd, r0.1, r1.1]
theorem len_small {n : Nat} (h : n ≤ 4) (h' : H) : ∃ r, math_bits_Len (IntKind.wrap .u64 (n : Int)) h' = some (r, h') := by
  have : n = 0 ∨ n = 1 ∨ n = 2 ∨ n = 3 ∨ n = 4 := by omega
  rcases this with rfl | rfl | rfl | rfl | rfl
  · exact ⟨0, by kernel_rfl⟩
  · exact ⟨1, by kernel_rfl⟩
  · exact ⟨2, by kernel_rfl⟩
  · exact ⟨2, by kernel_rfl⟩
  · exact ⟨3, by kernel_rfl⟩
theorem bsort_ok {sl : List Slot} {ys : List (Int × Int)} {n : Nat} (hs : sl[1]? = some (aS ys)) (hn : ys.length = 4) (h4 : n ≤ 4) (hD : ∀ k, k < n → 0 ≤ (gq ys k).1 ∧ (gq ys k).1 ≤ 1000000) :
    ∃ zs, slices_SortFunc_2_int_2_int blend_Bound.tb ⟨.hp 1 8 0, n, 4, false⟩ (.func 43 []) (hL sl) = some ((), hL (sl.set 1 (aS zs))) ∧ zs.length = 4 ∧ zs.Perm ys ∧ (∀ p, n ≤ p → gq zs p = gq ys p) ∧ ∀ p q, p < q → q < n → (gq zs p).1 ≤ (gq zs q).1 := by
  have hid : 1 < sl.length := (List.getElem?_eq_some_iff.1 hs).1
  have hself : sl.set 1 (aS ys) = sl := by
    refine List.ext_getElem? fun i => ?_
    by_cases hi : i = 1
    · subst hi; rw [List.getElem?_set_self hid, hs]
    · rw [List.getElem?_set_ne (Ne.symm hi)]
  obtain ⟨r, hr⟩ := len_small h4 (hL sl)
  obtain ⟨zs, h1, h2, h3, h4', h5, h6⟩ := insQ_ok (T := slices_pdqsortCmpFunc_2_int.tb (slices_SortFunc_2_int_2_int.tb blend_Bound.tb)) (v := .func 43 []) (sl := sl) (id := 1) (e := 8) (N := 4) (n := n) (cp := 4) (t := false) (D := fun p => 0 ≤ p.1 ∧ p.1 ≤ 1000000) (c := fun x y => x.1 - y.1) (lt := fun x y => x.1 ≤ y.1) hid (by omega) (fun x y xs hx hy hl R k => by
      show (blend_Bound_1P x y).bind (fun r => k ((Res.one (.leaf (.int .i64))).lo true r) _) = _
      rw [bcmp_ok]
      rw [i64_in _ (by omega)]
      rfl) (fun x y z h1 h2 => Int.le_trans h1 h2) hn h4 (a := 0) (b := n) (by omega) (Nat.le_refl _) (fun k _ hk => hD k hk) (fun p q _ _ _ => ⟨fun h => by simp only at h; omega, fun h => by simp only at h; omega⟩)
  have e0 : hQ sl 1 8 ys = hL sl := by unfold hQ; rw [hself]
  rw [e0] at h1
  refine ⟨zs, ?_, h2, h3, fun p hp => h4' p (by omega), fun p q hpq hq => h6 p q (by omega) hpq hq⟩
  unfold slices_SortFunc_2_int_2_int
  try simp -implicitDefEqProofs only []
  rw [hr]
  try simp -implicitDefEqProofs only [Option.bind_some]
  have hl1 : slices_pdqsortCmpFunc_2_int.loop1 (slices_SortFunc_2_int_2_int.tb blend_Bound.tb) ⟨.hp 1 8 0, n, 4, false⟩ (.func 43 []) ((r, 0, true, true, (n : Int)), hL sl) = some (.done (.ret (), hL (sl.set 1 (aS zs)))) := by
    unfold slices_pdqsortCmpFunc_2_int.loop1
    try simp -implicitDefEqProofs only []
    rw [i64_in _ (by omega), decide_eq_true (show (n : Int) - 0 ≤ 12 by omega), cond_true]
    have h1' : slices_insertionSortCmpFunc_2_int (slices_pdqsortCmpFunc_2_int.tb (slices_SortFunc_2_int_2_int.tb blend_Bound.tb)) ⟨.hp 1 8 0, n, 4, false⟩ 0 (n : Int) (.func 43 []) (hL sl) = some ((), hL (sl.set 1 (aS zs))) := h1
    rw [h1']
    rfl
  unfold slices_pdqsortCmpFunc_2_int
  rw [show FUEL = (FUEL - 1) + 1 by have := fuel_gt (n := 1) (by omega); omega, iter, hl1]
  rfl
end Go.Proofs.Ytfkabibbaajfhaa
/- Bound of package blend. Conditions: those of each law. -/
namespace Go.Proofs.Ytfkabibbaajfhaa
open Go Go.Proofs.Ytfkabibbaajfhaa.Ev
set_option linter.unusedVariables false
set_option linter.unusedSimpArgs false
set_option maxRecDepth 100000
set_option maxHeartbeats 4000000
theorem greedy_b : ∀ (ps : List (Int × Int)) (st : Int × Int) (B : Int), (∀ p ∈ ps, 0 ≤ p.2 ∧ 0 ≤ p.1 ∧ p.1 ≤ 1000000) → 0 ≤ st.1 ∧ st.1 ≤ 256 → 0 ≤ st.2 ∧ st.2 ≤ B → (0 ≤ (ps.foldl greedy st).1 ∧ (ps.foldl greedy st).1 ≤ 256) ∧ 0 ≤ (ps.foldl greedy st).2 ∧ (ps.foldl greedy st).2 ≤ B + ps.length * 256000000
  | [], st, B, _, h1, h2 => by simp only [List.foldl_nil, List.length_nil]; omega
  | p :: ps, st, B, h, h1, h2 => by
    have hp := h p (by simp)
    have hm := mul_b (x := min st.1 p.2) (y := p.1) (A := 256) (B := 1000000) (by omega) hp.2
    have ih := greedy_b ps (greedy st p) (B + 256000000) (fun q hq => h q (by simp [hq])) (by unfold greedy; simp only; omega) (by unfold greedy; simp only; omega)
    rw [List.foldl_cons, List.length_cons, Int.natCast_add, Int.natCast_one, Int.add_mul, Int.one_mul]
    omega
def slotsG (o : OrdT) (zs S : List (Int × Int)) (i : Nat) : List Slot := [oS o, aS zs] ++ (S.take i).map c2
theorem bound_loop {o : OrdT} {zs : List (Int × Int)} {n : Nat} {x24 : SV} {al : Int} (hx : x24.len = n) (hz : zs.length = 4) (h4 : n ≤ 4) (hal : 0 ≤ al ∧ al ≤ 256) (hp : ∀ p ∈ zs.take n, 0 ≤ p.2 ∧ 0 ≤ p.1 ∧ p.1 ≤ 1000000) :
    ∃ sl, iter FUEL (blend_Bound.loop2 (hL [oS o]) x24) ((al, 0, 0), hL [oS o, aS zs]) = some (.ex0 ((zs.take n).foldl greedy (al, 0)).2, hL sl) := by
  have hl : (zs.take n).length = n := by rw [List.length_take]; omega
  refine ⟨slotsG o zs (zs.take n) n, iter_from (s0 := ((al, 0, 0), hL [oS o, aS zs])) (fun i => ((((zs.take n).take i).foldl greedy (al, 0) |>.1, ((zs.take n).take i).foldl greedy (al, 0) |>.2, (i : Int)), hL (slotsG o zs (zs.take n) i))) ?_ n FUEL (fun i hi => ?_) ?_ (fuel_gt (by omega))⟩
  · simp [slotsG]
  · have hg : 0 ≤ (i : Int) ∧ (i : Int) < (n : Int) := by omega
    have hgb := greedy_b ((zs.take n).take i) (al, 0) 0 (fun p hp' => hp p (List.mem_of_mem_take hp')) hal (by simp)
    have hlt : (((zs.take n).take i).length : Int) ≤ 4 := by rw [List.length_take]; omega
    have hki : i < (zs.take n).length := by omega
    have hts : (zs.take n).take (i + 1) = (zs.take n).take i ++ [(zs.take n)[i]] := (List.take_append_getElem hki).symm
    have hq : gq zs i = (zs.take n)[i] := by rw [gq_eq (by omega), List.getElem_take]
    have hlen : (slotsG o zs (zs.take n) i).length = i + 2 := by
      simp only [slotsG, List.length_append, List.length_map, List.length_cons, List.length_nil]
      rw [List.length_take]
      omega
    have r1 := rd_a (sl := slotsG o zs (zs.take n) i) (id := 1) (k := i) (ys := zs) rfl hz (by omega)
    have hpi := hp _ (List.getElem_mem hki)
    have hsucc : slotsG o zs (zs.take n) i ++ [c2 (zs.take n)[i]] = slotsG o zs (zs.take n) (i + 1) := by
      simp only [slotsG, hts, List.map_append, List.append_assoc]
      rfl
    rw [hq] at r1
    have hmm := mul_b (x := min (((zs.take n).take i).foldl greedy (al, 0)).1 (zs.take n)[i].2) (y := (zs.take n)[i].1) (A := 256) (B := 1000000) (by omega) hpi.2
    rw [hts, List.foldl_append, List.foldl_cons, List.foldl_nil]
    generalize ((zs.take n).take i).foldl greedy (al, 0) = st at *
    generalize (zs.take n)[i] = p at *
    obtain ⟨p1, p2⟩ := p
    have n1 := new_c2 (sl := slotsG o zs (zs.take n) i) (x := (p1, p2))
    have r2 := rd_c2 (sl := slotsG o zs (zs.take n) i ++ [c2 (p1, p2)]) (id := i + 2) (x := (p1, p2)) (by rw [List.getElem?_append_right (by omega), hlen]; simp)
    rw [hlen] at n1
    unfold blend_Bound.loop2
    try simp -implicitDefEqProofs only [hx, Int.toNat_natCast, show Int.toNat 0 = 0 from rfl, Nat.sub_zero, hL_next, List.length_cons, List.length_nil, Nat.zero_add]
    rw [decide_eq_true hg.2, cond_true, guardO_pos hg, r1]
    try simp -implicitDefEqProofs only [evs, reduceIte, rdRes, rdTT, rdTy, rdLT, Res.un, TT.un, Ty.un, LT.un, Leaf.un, Leaf.plain, LT.plain, hL_new, hL_next, hlen]
    rw [n1]
    try simp -implicitDefEqProofs only [evs, reduceIte, rdRes, rdTT, rdTy, rdLT, Res.un, TT.un, Ty.un, LT.un, Leaf.un, Leaf.plain, LT.plain]
    rw [r2.2]
    try simp -implicitDefEqProofs only [evs, reduceIte, rdRes, rdTT, rdTy, rdLT, Res.un, TT.un, Ty.un, LT.un, Leaf.un, Leaf.plain, LT.plain]
    rw [r2.1]
    try simp -implicitDefEqProofs only [evs, reduceIte, rdRes, rdTT, rdTy, rdLT, Res.un, TT.un, Ty.un, LT.un, Leaf.un, Leaf.plain, LT.plain]
    rw [minI_eq]
    simp only at hpi hmm
    rw [i64_in (min st.1 p2 * p1) (by omega), i64_in (st.1 - min st.1 p2) (by omega), i64_in (st.2 + min st.1 p2 * p1) (by omega), i64_succ (by omega), hsucc]
    rfl
  · unfold blend_Bound.loop2
    try simp -implicitDefEqProofs only [hx, Int.toNat_natCast, show Int.toNat 0 = 0 from rfl, Nat.sub_zero]
    rw [decide_eq_false (by omega), cond_false, List.take_of_length_le (by omega)]
theorem sorted_part {ps zs : List (Int × Int)} {n : Nat} (hn : ps.length = n) (h4 : n ≤ 4) (hz : zs.length = 4) (hp : zs.Perm (fillA ps n)) (hout : ∀ p, n ≤ p → gq zs p = gq (fillA ps n) p) (hs : ∀ p q, p < q → q < n → (gq zs p).1 ≤ (gq zs q).1) :
    (zs.take n).Perm ps ∧ (zs.take n).Pairwise fun a b => a.1 ≤ b.1 := by
  have hfl : (fillA ps n).length = 4 := fillA_len (by omega) h4
  have hd : zs.drop n = List.replicate (4 - n) (0, 0) := by
    refine List.ext_getElem (by rw [List.length_drop, List.length_replicate]; omega) fun k h1 h2 => ?_
    rw [List.getElem_drop, List.getElem_replicate]
    rw [List.length_drop] at h1
    have := hout (n + k) (by omega)
    rw [gq_eq (by omega), gq_eq (by omega)] at this
    rw [this]
    unfold fillA
    rw [List.getElem_append_right (by rw [List.length_take]; omega), List.getElem_replicate]
  refine ⟨?_, ?_⟩
  · have h1 : (zs.take n ++ zs.drop n).Perm (ps ++ List.replicate (4 - n) (0, 0)) := by
      rw [List.take_append_drop]
      have : fillA ps n = ps ++ List.replicate (4 - n) (0, 0) := by unfold fillA; rw [List.take_of_length_le (by omega)]
      rw [← this]
      exact hp
    rw [hd] at h1
    exact (List.perm_append_right_iff _).1 h1
  · rw [List.pairwise_iff_getElem]
    intro i j hi hj hij
    rw [List.length_take] at hi hj
    have := hs i j hij (by omega)
    rw [gq_eq (by omega), gq_eq (by omega)] at this
    rw [List.getElem_take, List.getElem_take]
    exact this
theorem Bound_ok (xs : List (Int × Int)) (o : OrdT) : blend_BoundP xs o = some (boundOf xs o) := by
  have q1 := rds_oS (sl := [oS o]) (id := 0) (o := o) rfl
  have r1 := rd_oS (sl := [oS o]) (id := 0) (o := o) rfl
  have r2 := rd_oS (sl := [oS o, aS (List.replicate 4 (0, 0))]) (id := 0) (o := o) rfl
  have e0 : (Slot.own [V.int .i64 0, .int .i64 0, .int .i64 0, .int .i64 0, .int .i64 0, .int .i64 0, .int .i64 0, .int .i64 0] 8) = aS (List.replicate 4 (0, 0)) := rfl
  simp only [oS] at q1 r1 r2
  unfold blend_BoundP blend_Bound boundOf
  try simp -implicitDefEqProofs only [evs, reduceIte, rdRes, rdTT, rdTy, rdLT, Res.un, TT.un, Ty.un, LT.un, Leaf.un, Leaf.plain, LT.plain, hL_empty, hL_new, hL_next, List.nil_append, List.length_nil, q1]
  try simp -implicitDefEqProofs only [evs, reduceIte, rdRes, rdTT, rdTy, rdLT, Res.un, TT.un, Ty.un, LT.un, Leaf.un, Leaf.plain, LT.plain, ord_eta, BCheck_ok]
  by_cases hc : bcheckOf xs o = 0
  · have h := bcheck_iff.1 hc
    have h4 := h.l4
    have hlu := h.lu
    have hlc := h.lc
    have ha1 := h.a1
    have ha2 := h.a2
    have hsm : Sm o.2.1 := ⟨by omega, fun x hx => ⟨h.w0 x hx, h.w64 x hx⟩⟩
    rw [decide_eq_true hc, if_pos hc]
    try simp -implicitDefEqProofs only [evs, reduceIte, rdRes, rdTT, rdTy, rdLT, Res.un, TT.un, Ty.un, LT.un, Leaf.un, Leaf.plain, LT.plain, r1.2.1, r1.2.2.2.2.2]
    rw [(bsum_ok hsm).1]
    try simp -implicitDefEqProofs only [evs, reduceIte, rdRes, rdTT, rdTy, rdLT, Res.un, TT.un, Ty.un, LT.un, Leaf.un, Leaf.plain, LT.plain]
    by_cases hs : o.2.1.sum < o.2.2.2.2.2
    · rw [decide_eq_true hs, if_pos hs]
      try simp -implicitDefEqProofs only [evs, reduceIte, rdRes, rdTT, rdTy, rdLT, Res.un, TT.un, Ty.un, LT.un, Leaf.un, Leaf.plain, LT.plain]
    · rw [decide_eq_false hs, if_neg hs]
      have hil : (items o.2.2.1 o.2.1).length = o.2.1.length := by unfold items; rw [List.length_zip]; omega
      have hfill := bound_fill (o := o) (by omega) (by omega)
      have hit : ∀ p ∈ items o.2.2.1 o.2.1, 0 ≤ p.2 ∧ 0 ≤ p.1 ∧ p.1 ≤ 1000000 := fun p hp => by
        have := List.of_mem_zip hp
        exact ⟨h.w0 _ this.2, h.sc _ this.1⟩
      have hfg : ∀ k, k < o.2.1.length → gq (fillA (items o.2.2.1 o.2.1) o.2.1.length) k ∈ items o.2.2.1 o.2.1 := fun k hk => by
        rw [gq_eq (by rw [fillA_len (by omega) (by omega)]; omega)]
        unfold fillA
        rw [List.getElem_append_left (by rw [List.length_take]; omega), List.getElem_take]
        exact List.getElem_mem _
      have r3 := rd_oS (sl := [oS o, aS (fillA (items o.2.2.1 o.2.1) o.2.1.length)]) (id := 0) (o := o) rfl
      obtain ⟨zs, s1, s2, s3, s4, s5⟩ := bsort_ok (sl := [oS o, aS (fillA (items o.2.2.1 o.2.1) o.2.1.length)]) (n := o.2.1.length) rfl (fillA_len (by omega) (by omega)) (by omega) (fun k hk => (hit _ (hfg k hk)).2)
      have r4 := rd_oS (sl := [oS o, aS zs]) (id := 0) (o := o) rfl
      obtain ⟨hpm, hso⟩ := sorted_part hil (by omega) s2 s3 s4 s5
      obtain ⟨sl, hloop⟩ := bound_loop (o := o) (zs := zs) (n := o.2.1.length) (x24 := rowSV false j1 o.2.1) (al := o.2.2.2.2.2) rowSV_len s2 (by omega) (by omega) (fun p hp => hit p (hpm.mem_iff.1 hp))
      rw [greedy_ok _ _ _ (by omega) (fun p hp => (hit p (hpm.mem_iff.1 hp)).1), sortI_eq (expand_perm hpm) (expand_sorted hso)] at hloop
      simp only [List.set_cons_succ, List.set_cons_zero, oS] at hfill r3 s1 r4 hloop
      try simp -implicitDefEqProofs only [evs, reduceIte, rdRes, rdTT, rdTy, rdLT, Res.un, TT.un, Ty.un, LT.un, Leaf.un, Leaf.plain, LT.plain, hL_new, hL_next, List.cons_append, List.nil_append, List.length_nil, List.length_cons, Nat.zero_add, e0, r2.2.1]
      rw [hfill]
      try simp -implicitDefEqProofs only [evs, reduceIte, rdRes, rdTT, rdTy, rdLT, Res.un, TT.un, Ty.un, LT.un, Leaf.un, Leaf.plain, LT.plain, r3.2.1, Int.toNat_natCast, show Int.toNat 0 = 0 from rfl, Nat.sub_zero]
      rw [guardO_pos (show (0 : Int) ≤ 0 ∧ (0 : Int) ≤ (o.2.1.length : Int) ∧ (o.2.1.length : Int) ≤ ((4 : Nat) : Int) by omega), s1]
      try simp -implicitDefEqProofs only [evs, reduceIte, rdRes, rdTT, rdTy, rdLT, Res.un, TT.un, Ty.un, LT.un, Leaf.un, Leaf.plain, LT.plain, r4.2.2.2.2.2]
      rw [hloop]
      try simp -implicitDefEqProofs only [evs, reduceIte, rdRes, rdTT, rdTy, rdLT, Res.un, TT.un, Ty.un, LT.un, Leaf.un, Leaf.plain, LT.plain]
      unfold boundV
      rw [Int.zero_add]
  · rw [decide_eq_false hc, if_neg hc]
    try simp -implicitDefEqProofs only [evs, reduceIte, rdRes, rdTT, rdTy, rdLT, Res.un, TT.un, Ty.un, LT.un, Leaf.un, Leaf.plain, LT.plain]
end Go.Proofs.Ytfkabibbaajfhaa
/- Bound of the reference of package blend. Conditions: those of each law. -/
namespace Go.Proofs.Ytfkabibbaajfhaa
open Go Go.Proofs.Ytfkabibbaajfhaa.Ev
set_option linter.unusedVariables false
set_option linter.unusedSimpArgs false
set_option maxRecDepth 100000
set_option maxHeartbeats 4000000
/-- The cheapest liquid of which something is left, among the first ones. -/
def AtInv (c left : List Int) (i : Nat) (y : Int) : Prop :=
  (y = -1 ∧ ∀ j, j < i → g left j ≤ 0) ∨ ∃ a : Nat, y = (a : Int) ∧ a < i ∧ 0 < g left a ∧ ∀ j, j < i → 0 < g left j → g c a ≤ g c j
theorem pick_loop {o : OrdT} {left : List Int} {n : Nat} (hn : left.length = n) (hc : o.2.2.1.length = n) (h62 : n < 2 ^ 62) :
    ∃ y, iter FUEL (spileref29_Bound.loop1 (hL []) ⟨.hp 1 (n * 1) 0, n, n, true⟩) (((-1 : Int), (0 : Int)), hL [oS o, uS left]) = some (.ex0 y, hL [oS o, uS left]) ∧ AtInv o.2.2.1 left n y := by
  have r0 := rd_oS (sl := [oS o, uS left]) (id := 0) (o := o) rfl
  have ea : ∀ k : Nat, V.add (V.hp 1 (n * 1) 0) (k * 1) = V.hp 1 (n * 1) (k * 1) := fun k => by simp [V.add]
  obtain ⟨x, hx, y, rfl, hy⟩ := iter_upto (f := spileref29_Bound.loop1 (hL []) ⟨.hp 1 (n * 1) 0, n, n, true⟩)
    (fun i s => ∃ y, s = ((y, (i : Int)), hL [oS o, uS left]) ∧ AtInv o.2.2.1 left i y) (fun x => ∃ y, x = (.ex0 y, hL [oS o, uS left]) ∧ AtInv o.2.2.1 left n y) n (fun i s hi inv => by
      obtain ⟨y, rfl, hinv⟩ := inv
      have hg : 0 ≤ (i : Int) ∧ (i : Int) < (n : Int) := by omega
      have hg2 : 0 ≤ (i : Int) ∧ (i : Int) < (o.2.2.1.length : Int) := by omega
      have hru := rd_u (sl := [oS o, uS left]) (id := 1) (i := i) rfl hn hi
      rw [g_some (by omega)] at hru
      have hrc := rd_rowI (f := false) (h := hL [oS o, uS left]) (k := .i64) (xs := o.2.2.1) (i := i)
      rw [g_some (by omega)] at hrc
      by_cases hpos : 0 < g left i
      · rcases hinv with ⟨rfl, hz⟩ | ⟨a, rfl, ha, hap, hmin⟩
        · refine ⟨(((i : Int), ((i + 1 : Nat) : Int)), hL [oS o, uS left]), ?_, _, rfl, .inr ⟨i, rfl, by omega, hpos, fun j hj hjp => ?_⟩⟩
          · unfold spileref29_Bound.loop1
            try simp -implicitDefEqProofs only [evs, reduceIte, rdRes, rdTT, rdTy, rdLT, Res.un, TT.un, Ty.un, LT.un, Leaf.un, Leaf.plain, LT.plain, Int.toNat_natCast, guardO_pos hg, hL_next, List.length_nil, ea]
            rw [decide_eq_true hg.2, cond_true, hru]
            try simp -implicitDefEqProofs only [evs, reduceIte, rdRes, rdTT, rdTy, rdLT, Res.un, TT.un, Ty.un, LT.un, Leaf.un, Leaf.plain, LT.plain]
            rw [decide_eq_true hpos, decide_eq_true (show (-1 : Int) < 0 by omega)]
            try simp -implicitDefEqProofs only [evs, reduceIte, rdRes, rdTT, rdTy, rdLT, Res.un, TT.un, Ty.un, LT.un, Leaf.un, Leaf.plain, LT.plain]
            rw [i64_succ (by omega)]
          · by_cases e : j = i
            · subst e; exact Int.le_refl _
            · have := hz j (by omega); omega
        · have hga : 0 ≤ (a : Int) ∧ (a : Int) < (o.2.2.1.length : Int) := by omega
          have hra := rd_rowI (f := false) (h := hL [oS o, uS left]) (k := .i64) (xs := o.2.2.1) (i := a)
          rw [g_some (by omega)] at hra
          by_cases hlt : g o.2.2.1 i < g o.2.2.1 a
          · refine ⟨(((i : Int), ((i + 1 : Nat) : Int)), hL [oS o, uS left]), ?_, _, rfl, .inr ⟨i, rfl, by omega, hpos, fun j hj hjp => ?_⟩⟩
            · unfold spileref29_Bound.loop1
              try simp -implicitDefEqProofs only [evs, reduceIte, rdRes, rdTT, rdTy, rdLT, Res.un, TT.un, Ty.un, LT.un, Leaf.un, Leaf.plain, LT.plain, Int.toNat_natCast, guardO_pos hg, hL_next, List.length_nil, ea]
              rw [decide_eq_true hg.2, cond_true, hru]
              try simp -implicitDefEqProofs only [evs, reduceIte, rdRes, rdTT, rdTy, rdLT, Res.un, TT.un, Ty.un, LT.un, Leaf.un, Leaf.plain, LT.plain]
              rw [decide_eq_true hpos, decide_eq_false (show ¬ (a : Int) < 0 by omega)]
              try simp -implicitDefEqProofs only [evs, reduceIte, rdRes, rdTT, rdTy, rdLT, Res.un, TT.un, Ty.un, LT.un, Leaf.un, Leaf.plain, LT.plain, r0.2.2.1, guardO_pos hg2, guardO_pos hga]
              rw [hrc, hra]
              try simp -implicitDefEqProofs only [evs, reduceIte, rdRes, rdTT, rdTy, rdLT, Res.un, TT.un, Ty.un, LT.un, Leaf.un, Leaf.plain, LT.plain]
              rw [decide_eq_true hlt]
              try simp -implicitDefEqProofs only [evs, reduceIte, rdRes, rdTT, rdTy, rdLT, Res.un, TT.un, Ty.un, LT.un, Leaf.un, Leaf.plain, LT.plain]
              rw [i64_succ (by omega)]
            · by_cases e : j = i
              · subst e; exact Int.le_refl _
              · have := hmin j (by omega) hjp; omega
          · refine ⟨(((a : Int), ((i + 1 : Nat) : Int)), hL [oS o, uS left]), ?_, _, rfl, .inr ⟨a, rfl, by omega, hap, fun j hj hjp => ?_⟩⟩
            · unfold spileref29_Bound.loop1
              try simp -implicitDefEqProofs only [evs, reduceIte, rdRes, rdTT, rdTy, rdLT, Res.un, TT.un, Ty.un, LT.un, Leaf.un, Leaf.plain, LT.plain, Int.toNat_natCast, guardO_pos hg, hL_next, List.length_nil, ea]
              rw [decide_eq_true hg.2, cond_true, hru]
              try simp -implicitDefEqProofs only [evs, reduceIte, rdRes, rdTT, rdTy, rdLT, Res.un, TT.un, Ty.un, LT.un, Leaf.un, Leaf.plain, LT.plain]
              rw [decide_eq_true hpos, decide_eq_false (show ¬ (a : Int) < 0 by omega)]
              try simp -implicitDefEqProofs only [evs, reduceIte, rdRes, rdTT, rdTy, rdLT, Res.un, TT.un, Ty.un, LT.un, Leaf.un, Leaf.plain, LT.plain, r0.2.2.1, guardO_pos hg2, guardO_pos hga]
              rw [hrc, hra]
              try simp -implicitDefEqProofs only [evs, reduceIte, rdRes, rdTT, rdTy, rdLT, Res.un, TT.un, Ty.un, LT.un, Leaf.un, Leaf.plain, LT.plain]
              rw [decide_eq_false hlt]
              try simp -implicitDefEqProofs only [evs, reduceIte, rdRes, rdTT, rdTy, rdLT, Res.un, TT.un, Ty.un, LT.un, Leaf.un, Leaf.plain, LT.plain]
              rw [i64_succ (by omega)]
            · by_cases e : j = i
              · subst e; omega
              · exact hmin j (by omega) hjp
      · refine ⟨((y, ((i + 1 : Nat) : Int)), hL [oS o, uS left]), ?_, _, rfl, ?_⟩
        · unfold spileref29_Bound.loop1
          try simp -implicitDefEqProofs only [evs, reduceIte, rdRes, rdTT, rdTy, rdLT, Res.un, TT.un, Ty.un, LT.un, Leaf.un, Leaf.plain, LT.plain, Int.toNat_natCast, guardO_pos hg, hL_next, List.length_nil, ea]
          rw [decide_eq_true hg.2, cond_true, hru]
          try simp -implicitDefEqProofs only [evs, reduceIte, rdRes, rdTT, rdTy, rdLT, Res.un, TT.un, Ty.un, LT.un, Leaf.un, Leaf.plain, LT.plain]
          rw [decide_eq_false hpos]
          try simp -implicitDefEqProofs only [evs, reduceIte, rdRes, rdTT, rdTy, rdLT, Res.un, TT.un, Ty.un, LT.un, Leaf.un, Leaf.plain, LT.plain]
          rw [i64_succ (by omega)]
        · rcases hinv with ⟨rfl, hz⟩ | ⟨a, rfl, ha, hap, hmin⟩
          · refine .inl ⟨rfl, fun j hj => ?_⟩
            by_cases e : j = i
            · subst e; omega
            · exact hz j (by omega)
          · refine .inr ⟨a, rfl, by omega, hap, fun j hj hjp => ?_⟩
            by_cases e : j = i
            · subst e; omega
            · exact hmin j (by omega) hjp) (fun s inv => by
      obtain ⟨y, rfl, hinv⟩ := inv
      refine ⟨(.ex0 y, hL [oS o, uS left]), ?_, y, rfl, hinv⟩
      unfold spileref29_Bound.loop1
      simp only
      rw [decide_eq_false (by omega), cond_false]) FUEL 0 _ (Nat.zero_le _) ⟨-1, rfl, .inl ⟨rfl, fun j hj => by omega⟩⟩ (Nat.lt_of_le_of_lt (Nat.sub_le _ _) (fuel_gt (by omega)))
  exact ⟨y, hx, hy⟩
/-- One less of a liquid. -/
theorem expand_less : ∀ (c left : List Int) (a : Nat), left.length = c.length → a < left.length → 0 < g left a → (expand (items c left)).Perm (g c a :: expand (items c (left.set a (g left a - 1))))
  | [], left, a, h, ha, _ => by simp at h; simp [h] at ha
  | c :: cs, [], a, h, ha, _ => by simp at ha
  | c :: cs, l :: ls, 0, h, ha, hp => by
    have e2 : ∀ y v, items (c :: cs) (y :: v) = (c, y) :: items cs v := fun _ _ => rfl
    have e3 : g (l :: ls) 0 = l := rfl
    have e4 : g (c :: cs) 0 = c := rfl
    rw [e3] at hp
    rw [e3, e4, List.set_cons_zero, e2, e2, expand_cons, expand_cons]
    simp only
    rw [show l.toNat = (l - 1).toNat + 1 by omega, List.replicate_succ]
    exact .refl _
  | c :: cs, l :: ls, a + 1, h, ha, hp => by
    have e2 : ∀ y v, items (c :: cs) (y :: v) = (c, y) :: items cs v := fun _ _ => rfl
    have e3 : ∀ (x : Int) (v : List Int), g (x :: v) (a + 1) = g v a := fun x v => by simp [g]
    rw [e3] at hp
    rw [e3, e3, List.set_cons_succ, e2, e2, expand_cons, expand_cons]
    have ih := expand_less cs ls a (by simpa using h) (by simpa using ha) hp
    exact (List.Perm.append_left _ ih).trans List.perm_middle
theorem mem_expand {c left : List Int} {x : Int} (h : x ∈ expand (items c left)) : ∃ j, j < c.length ∧ j < left.length ∧ g c j = x ∧ 0 < g left j := by
  obtain ⟨p, hp, hx⟩ := List.mem_flatMap.1 h
  obtain ⟨j, hj, rfl⟩ := List.getElem_of_mem hp
  have hj' := hj
  unfold items at hj'
  rw [List.length_zip] at hj'
  have hl := (items_get (c := c) (u := left) (i := j) (by omega) (by omega)).2
  rw [hl] at hx
  obtain ⟨h1, h2⟩ := List.mem_replicate.1 hx
  exact ⟨j, by omega, by omega, by rw [g_eq (by omega)]; exact h2.symm, by rw [g_eq (by omega)]; simp only at h1; omega⟩
theorem in_expand {c left : List Int} {j : Nat} (h1 : j < c.length) (h2 : j < left.length) (h3 : 0 < g left j) : g c j ∈ expand (items c left) := by
  obtain ⟨hj, hl⟩ := items_get (c := c) (u := left) (i := j) h1 h2
  refine List.mem_flatMap.2 ⟨(items c left)[j], List.getElem_mem hj, ?_⟩
  rw [hl]
  rw [g_eq h2] at h3
  rw [g_eq h1]
  exact List.mem_replicate.2 ⟨by simp only; omega, rfl⟩
theorem rBound_loop {o : OrdT} {E : List Int} {n : Nat} (hE : E = sortI (expand (items o.2.2.1 o.2.1))) (hn : o.2.1.length = n) (hc : o.2.2.1.length = n) (h4 : n ≤ 4) (hs : Sm o.2.1) (hsc : Sc o.2.2.1) (hal : 1 ≤ o.2.2.2.2.2 ∧ o.2.2.2.2.2 ≤ 256) (hsum : o.2.2.2.2.2 ≤ o.2.1.sum) :
    ∃ h', iter FUEL (spileref29_Bound.loop2 (hL []) ⟨.hp 1 (n * 1) 0, n, n, true⟩) (((0 : Int), (0 : Int)), hL [oS o, uS o.2.1]) = some (.ex0 (E.take o.2.2.2.2.2.toNat).sum, h') := by
  have hEl : (E.length : Int) = o.2.1.sum := by
    rw [hE, (sortI_perm _).length_eq]
    exact items_len _ _ (by omega) fun x hx => (hs.2 x hx).1
  have hEs : E.Pairwise (· ≤ ·) := by rw [hE]; exact sortI_sorted _
  have hEb : ∀ x ∈ E, 0 ≤ x ∧ x ≤ 1000000 := fun x hx => by
    rw [hE] at hx
    obtain ⟨j, j1, j2, rfl, _⟩ := mem_expand ((sortI_perm _).mem_iff.1 hx)
    exact hsc _ (g_mem j1)
  obtain ⟨x, hx, h', rfl⟩ := iter_upto (f := spileref29_Bound.loop2 (hL []) ⟨.hp 1 (n * 1) 0, n, n, true⟩)
    (fun k s => ∃ left : List Int, s = (((E.take k).sum, (k : Int)), hL [oS o, uS left]) ∧ left.length = n ∧ (∀ x ∈ left, 0 ≤ x ∧ x ≤ 64) ∧ (expand (items o.2.2.1 left)).Perm (E.drop k))
    (fun x => ∃ h', x = (.ex0 (E.take o.2.2.2.2.2.toNat).sum, h')) o.2.2.2.2.2.toNat (fun k s hk inv => by
      obtain ⟨left, rfl, hl, hb, hp⟩ := inv
      have hkE : k < E.length := by omega
      have r0 := rd_oS (sl := [oS o, uS left]) (id := 0) (o := o) rfl
      obtain ⟨y, hy, hinv⟩ := pick_loop (o := o) (left := left) hl hc (by omega)
      have hEk : E[k] ∈ expand (items o.2.2.1 left) := hp.mem_iff.2 (by rw [List.drop_eq_getElem_cons hkE]; exact List.mem_cons_self)
      obtain ⟨j, j1, j2, j3, j4⟩ := mem_expand hEk
      rcases hinv with ⟨_, hz⟩ | ⟨a, rfl, ha, hap, hmin⟩
      · have := hz j (by omega); omega
      · have hga : 0 ≤ (a : Int) ∧ (a : Int) < (n : Int) := by omega
        have hga2 : 0 ≤ (a : Int) ∧ (a : Int) < (o.2.2.1.length : Int) := by omega
        have h1 : g o.2.2.1 a ≤ E[k] := by rw [← j3]; exact hmin j (by omega) j4
        have h2 : E[k] ≤ g o.2.2.1 a := by
          have : g o.2.2.1 a ∈ E.drop k := hp.mem_iff.1 (in_expand (by omega) (by omega) hap)
          rw [List.drop_eq_getElem_cons hkE] at this
          rcases List.mem_cons.1 this with h | h
          · omega
          · have hd := hEs.sublist (List.drop_sublist k E)
            rw [List.drop_eq_getElem_cons hkE] at hd
            exact (List.pairwise_cons.1 hd).1 _ h
        have h3 : g o.2.2.1 a = E[k] := by omega
        have hpl := expand_less o.2.2.1 left a (by omega) (by omega) hap
        have hp' : (expand (items o.2.2.1 (left.set a (g left a - 1)))).Perm (E.drop (k + 1)) := by
          have := hpl.symm.trans hp
          rw [List.drop_eq_getElem_cons hkE, h3] at this
          exact this.cons_inv
        have hla := hb _ (g_mem (show a < left.length by omega))
        have hEb' := hEb E[k] (List.getElem_mem hkE)
        have hts := sum_take_succ hkE
        have hsb := sum_le (u := E.take k) (B := 1000000) fun x hx => hEb x (List.mem_of_mem_take hx)
        have hsl : ((E.take k).length : Int) ≤ 256 := by rw [List.length_take]; omega
        have ea : V.add (V.hp 1 (n * 1) 0) (a * 1) = V.hp 1 (n * 1) (a * 1) := by simp [V.add]
        have hru := rd_u (sl := [oS o, uS left]) (id := 1) (i := a) rfl hl (by omega)
        rw [g_some (by omega)] at hru
        have hwu := wr_u (sl := [oS o, uS left]) (id := 1) (i := a) (x := g left a - 1) rfl hl (by omega)
        simp only [List.set_cons_succ, List.set_cons_zero] at hwu
        have r1 := rd_oS (sl := [oS o, uS (left.set a (g left a - 1))]) (id := 0) (o := o) rfl
        have hrc := rd_rowI (f := false) (h := hL [oS o, uS (left.set a (g left a - 1))]) (k := .i64) (xs := o.2.2.1) (i := a)
        rw [g_some (by omega), h3] at hrc
        refine ⟨(((E.take (k + 1)).sum, ((k + 1 : Nat) : Int)), hL [oS o, uS (left.set a (g left a - 1))]), ?_, _, rfl, by simpa using hl, fun x hx => ?_, hp'⟩
        · unfold spileref29_Bound.loop2
          try simp -implicitDefEqProofs only [evs, reduceIte, rdRes, rdTT, rdTy, rdLT, Res.un, TT.un, Ty.un, LT.un, Leaf.un, Leaf.plain, LT.plain, hL_next, List.length_nil, r0.2.2.2.2.2]
          rw [decide_eq_true (show (k : Int) < o.2.2.2.2.2 by omega), cond_true, hy]
          try simp -implicitDefEqProofs only [evs, reduceIte, rdRes, rdTT, rdTy, rdLT, Res.un, TT.un, Ty.un, LT.un, Leaf.un, Leaf.plain, LT.plain, Int.toNat_natCast, guardO_pos hga, guardO_pos hga2, ea]
          rw [hru]
          try simp -implicitDefEqProofs only [evs, reduceIte, rdRes, rdTT, rdTy, rdLT, Res.un, TT.un, Ty.un, LT.un, Leaf.un, Leaf.plain, LT.plain]
          rw [i64_in (g left a - 1) (by omega), hwu]
          try simp -implicitDefEqProofs only [evs, reduceIte, rdRes, rdTT, rdTy, rdLT, Res.un, TT.un, Ty.un, LT.un, Leaf.un, Leaf.plain, LT.plain, r1.2.2.1, guardO_pos hga2]
          rw [hrc]
          try simp -implicitDefEqProofs only [evs, reduceIte, rdRes, rdTT, rdTy, rdLT, Res.un, TT.un, Ty.un, LT.un, Leaf.un, Leaf.plain, LT.plain]
          rw [hts, i64_in _ (by omega), i64_succ (by omega)]
        · rcases List.mem_or_eq_of_mem_set hx with h | h
          · exact hb x h
          · omega) (fun s inv => by
      obtain ⟨left, rfl, hl, hb, hp⟩ := inv
      have r0 := rd_oS (sl := [oS o, uS left]) (id := 0) (o := o) rfl
      refine ⟨(.ex0 (E.take o.2.2.2.2.2.toNat).sum, hL [oS o, uS left]), ?_, hL [oS o, uS left], rfl⟩
      unfold spileref29_Bound.loop2
      try simp -implicitDefEqProofs only [evs, reduceIte, rdRes, rdTT, rdTy, rdLT, Res.un, TT.un, Ty.un, LT.un, Leaf.un, Leaf.plain, LT.plain, hL_next, List.length_nil, r0.2.2.2.2.2]
      rw [decide_eq_false (by omega), cond_false]) FUEL 0 (((0 : Int), (0 : Int)), hL [oS o, uS o.2.1]) (Nat.zero_le _) ⟨o.2.1, rfl, hn, hs.2, by rw [hE]; exact (sortI_perm _).symm⟩ (Nat.lt_of_le_of_lt (Nat.sub_le _ _) (fuel_gt (by omega)))
  exact ⟨h', hx⟩
theorem rBound_ok (xs : List (Int × Int)) (o : OrdT) : spileref29_BoundP xs o = some (boundOf xs o) := by
  have q1 := rds_oS (sl := [oS o]) (id := 0) (o := o) rfl
  have r1 := rd_oS (sl := [oS o]) (id := 0) (o := o) rfl
  simp only [oS] at q1 r1
  unfold spileref29_BoundP spileref29_Bound boundOf
  try simp -implicitDefEqProofs only [evs, reduceIte, rdRes, rdTT, rdTy, rdLT, Res.un, TT.un, Ty.un, LT.un, Leaf.un, Leaf.plain, LT.plain, hL_empty, hL_new, hL_next, List.nil_append, List.length_nil, q1]
  try simp -implicitDefEqProofs only [evs, reduceIte, rdRes, rdTT, rdTy, rdLT, Res.un, TT.un, Ty.un, LT.un, Leaf.un, Leaf.plain, LT.plain, ord_eta, rBCheck_ok]
  by_cases hc : bcheckOf xs o = 0
  · have h := bcheck_iff.1 hc
    have h4 := h.l4
    have h0 := h.l0
    have hlu := h.lu
    have hlc := h.lc
    have hsm : Sm o.2.1 := ⟨by omega, fun x hx => ⟨h.w0 x hx, h.w64 x hx⟩⟩
    rw [decide_eq_true hc, if_pos hc]
    try simp -implicitDefEqProofs only [evs, reduceIte, rdRes, rdTT, rdTy, rdLT, Res.un, TT.un, Ty.un, LT.un, Leaf.un, Leaf.plain, LT.plain, r1.2.1, r1.2.2.2.2.2]
    rw [(bsum_ok hsm).2]
    try simp -implicitDefEqProofs only [evs, reduceIte, rdRes, rdTT, rdTy, rdLT, Res.un, TT.un, Ty.un, LT.un, Leaf.un, Leaf.plain, LT.plain]
    by_cases hs : o.2.1.sum < o.2.2.2.2.2
    · rw [decide_eq_true hs, if_pos hs]
      try simp -implicitDefEqProofs only [evs, reduceIte, rdRes, rdTT, rdTy, rdLT, Res.un, TT.un, Ty.un, LT.un, Leaf.un, Leaf.plain, LT.plain]
    · rw [decide_eq_false hs, if_neg hs]
      have ha := app_empty (sl := [oS o]) (w := 1) (b := 8) (ls := j1) (xs := o.2.1) rfl (by omega) (by omega) (by omega)
      obtain ⟨h', hl⟩ := rBound_loop (o := o) rfl rfl (by omega) (by omega) hsm h.sc ⟨h.a1, h.a2⟩ (by omega)
      have es : ownSV 1 j1 o.2.1.length = ⟨.hp 1 (o.2.1.length * 1) 0, o.2.1.length, o.2.1.length, true⟩ := rfl
      simp only [oS, uS] at ha hl
      try simp -implicitDefEqProofs only [evs, reduceIte, rdRes, rdTT, rdTy, rdLT, Res.un, TT.un, Ty.un, LT.un, Leaf.un, Leaf.plain, LT.plain]
      rw [cellsOf_row (ls := j1) (w := 1) rfl (by omega) rfl]
      try simp -implicitDefEqProofs only [evs, reduceIte, rdRes, rdTT, rdTy, rdLT, Res.un, TT.un, Ty.un, LT.un, Leaf.un, Leaf.plain, LT.plain]
      rw [ha]
      try simp -implicitDefEqProofs only [evs, reduceIte, rdRes, rdTT, rdTy, rdLT, Res.un, TT.un, Ty.un, LT.un, Leaf.un, Leaf.plain, LT.plain, List.cons_append, List.nil_append, List.length_cons, List.length_nil, Nat.zero_add, es]
      rw [hl]
      try simp -implicitDefEqProofs only [evs, reduceIte, rdRes, rdTT, rdTy, rdLT, Res.un, TT.un, Ty.un, LT.un, Leaf.un, Leaf.plain, LT.plain]
      rfl
  · rw [decide_eq_false hc, if_neg hc]
    try simp -implicitDefEqProofs only [evs, reduceIte, rdRes, rdTT, rdTy, rdLT, Res.un, TT.un, Ty.un, LT.un, Leaf.un, Leaf.plain, LT.plain]
end Go.Proofs.Ytfkabibbaajfhaa
/- The laws BlendKeeps and BlendPlans in plain numbers. Conditions: none. -/
namespace Go.Proofs.Ytfkabibbaajfhaa
open Go Go.Proofs.Ytfkabibbaajfhaa.Ev
set_option linter.unusedVariables false
set_option linter.unusedSimpArgs false
set_option maxRecDepth 100000
set_option maxHeartbeats 4000000
theorem awake29 : spilelaw29_awakeP = some true := by kernel_rfl
theorem Few16_ok (xs : List (Int × Int)) : ∃ b, spileref16_FewP xs = some b := by
  unfold spileref16_FewP spileref16_Few
  try simp -implicitDefEqProofs only [evs, reduceIte, rdRes, rdTT, rdTy, rdLT, Res.un, TT.un, Ty.un, LT.un, Leaf.un, Leaf.plain, LT.plain]
  cases decide ((xs.length : Int) ≤ 20) with
  | true => exact ⟨_, rfl⟩
  | false =>
    cases decide ((128 : Int) < (xs.length : Int)) with
    | true => exact ⟨_, rfl⟩
    | false => exact ⟨_, rfl⟩
theorem EqualI_ok (a b : List Int) (hl : a.length < 2 ^ 63) : slices_Equal_int_intP a b = some (decide (a = b)) := by
  unfold slices_Equal_int_intP slices_Equal_int_int
  try simp -implicitDefEqProofs only [evs, reduceIte, rdRes, rdTT, rdTy, rdLT, Res.un, TT.un, Ty.un, LT.un, Leaf.un, Leaf.plain, LT.plain]
  by_cases h : a.length = b.length
  · rw [decide_eq_true (show (a.length : Int) = (b.length : Int) by omega)]
    try simp -implicitDefEqProofs only [evs, reduceIte, rdRes, rdTT, rdTy, rdLT, Res.un, TT.un, Ty.un, LT.un, Leaf.un, Leaf.plain, LT.plain]
    rw [iter_same a b h hl (fun i x y hx hy hi => by
      unfold slices_Equal_int_int.loop1
      try simp -implicitDefEqProofs only [rowSV_len, Int.toNat_natCast, reserve0]
      rw [decide_eq_true (by omega), cond_true, guardO_pos (by omega), rd_rowI, hx]
      try simp -implicitDefEqProofs only [evs, reduceIte, rdRes, rdTT, rdTy, rdLT, Res.un, TT.un, Ty.un, LT.un, Leaf.un, Leaf.plain, LT.plain]
      rw [guardO_pos (by omega), rd_rowI, hy]
      try simp -implicitDefEqProofs only [evs, reduceIte, rdRes, rdTT, rdTy, rdLT, Res.un, TT.un, Ty.un, LT.un, Leaf.un, Leaf.plain, LT.plain]
      rw [i64_succ (by omega)]
      cases decide (x = y) <;> rfl) (by
      unfold slices_Equal_int_int.loop1
      try simp -implicitDefEqProofs only [rowSV_len]
      rw [decide_eq_false (by omega), cond_false])]
    by_cases e : a = b
    · rw [if_pos e, decide_eq_true e]; rfl
    · rw [if_neg e, decide_eq_false e]; rfl
  · rw [decide_eq_false (show ¬ (a.length : Int) = (b.length : Int) by omega), decide_eq_false (fun e => h (by rw [e]))]
    rfl
theorem rFew_loop {o : OrdT} (hl : o.2.1.length ≤ 8) : ∃ x, iter FUEL (spileref29_Few.loop1 (hL [])) (((1 : Int), (0 : Int)), hL [oS o]) = some x ∧ (x = (.ret true, hL [oS o]) ∨ ∃ n, x = (.ex0 n, hL [oS o])) := by
  have r1 := rd_oS (sl := [oS o]) (id := 0) (o := o) rfl
  exact iter_inv (f := spileref29_Few.loop1 (hL [])) (Inv := fun s => ∃ i : Nat, s = ((prodU (o.2.1.take i), (i : Int)), hL [oS o]) ∧ i ≤ o.2.1.length ∧ (o.2.1.take i).all (inB 64) = true)
    (Post := fun x => x = (.ret true, hL [oS o]) ∨ ∃ n, x = (.ex0 n, hL [oS o])) (fun s => o.2.1.length - s.1.2.toNat) (fun s inv => by
      obtain ⟨i, rfl, hi, ha⟩ := inv
      by_cases hlt : i < o.2.1.length
      · have hg : 0 ≤ (i : Int) ∧ (i : Int) < (o.2.1.length : Int) := by omega
        have two : ∀ (x : Int) (h : H), (bif !(decide (x < 0)) then some ((decide ((64 : Int) < x)), h) else some (true, h) : Option (Bool × H)) = some (!inB 64 x, h) := fun x h => by
          unfold inB
          by_cases h1 : x < 0
          · rw [decide_eq_true h1, decide_eq_false (p := _ ∧ _) (by omega)]; rfl
          · rw [decide_eq_false h1]
            by_cases h2 : (64 : Int) < x
            · rw [decide_eq_true h2, decide_eq_false (p := _ ∧ _) (by omega)]; rfl
            · rw [decide_eq_false h2, decide_eq_true (p := _ ∧ _) (by omega)]; rfl
        have hrd := rd_rowI (f := false) (h := hL [oS o]) (k := .i64) (xs := o.2.1) (i := i)
        rw [List.getElem?_eq_getElem hlt] at hrd
        cases hb : inB 64 o.2.1[i] with
        | false =>
          right
          refine ⟨(.ret true, hL [oS o]), ?_, .inl rfl⟩
          unfold spileref29_Few.loop1
          try simp -implicitDefEqProofs only [evs, reduceIte, rdRes, rdTT, rdTy, rdLT, Res.un, TT.un, Ty.un, LT.un, Leaf.un, Leaf.plain, LT.plain, hL_next, List.length_nil, Int.toNat_natCast, r1.2.1, guardO_pos hg]
          rw [decide_eq_true hg.2, cond_true, hrd]
          try simp -implicitDefEqProofs only [evs, reduceIte, rdRes, rdTT, rdTy, rdLT, Res.un, TT.un, Ty.un, LT.un, Leaf.un, Leaf.plain, LT.plain]
          rw [two, hb]
          try simp -implicitDefEqProofs only [evs, reduceIte, rdRes, rdTT, rdTy, rdLT, Res.un, TT.un, Ty.un, LT.un, Leaf.un, Leaf.plain, LT.plain]
        | true =>
          have hall : (o.2.1.take (i + 1)).all (inB 64) = true := by
            rw [← List.take_append_getElem hlt, List.all_append, ha]
            simp [hb]
          have hst := prodU_step hall (by rw [List.length_take]; omega) (i := i) (by rw [List.length_take]; omega)
          rw [List.take_take, Nat.min_eq_left (by omega), List.take_take, Nat.min_self, List.getElem_take] at hst
          by_cases hbig : 4096 < prodU (o.2.1.take (i + 1))
          · right
            refine ⟨(.ret true, hL [oS o]), ?_, .inl rfl⟩
            unfold spileref29_Few.loop1
            try simp -implicitDefEqProofs only [evs, reduceIte, rdRes, rdTT, rdTy, rdLT, Res.un, TT.un, Ty.un, LT.un, Leaf.un, Leaf.plain, LT.plain, hL_next, List.length_nil, Int.toNat_natCast, r1.2.1, guardO_pos hg]
            rw [decide_eq_true hg.2, cond_true, hrd]
            try simp -implicitDefEqProofs only [evs, reduceIte, rdRes, rdTT, rdTy, rdLT, Res.un, TT.un, Ty.un, LT.un, Leaf.un, Leaf.plain, LT.plain]
            rw [two, hb]
            try simp -implicitDefEqProofs only [evs, reduceIte, rdRes, rdTT, rdTy, rdLT, Res.un, TT.un, Ty.un, LT.un, Leaf.un, Leaf.plain, LT.plain, r1.2.1, guardO_pos hg]
            rw [hrd]
            try simp -implicitDefEqProofs only [evs, reduceIte, rdRes, rdTT, rdTy, rdLT, Res.un, TT.un, Ty.un, LT.un, Leaf.un, Leaf.plain, LT.plain]
            rw [hst, decide_eq_true hbig]
            try simp -implicitDefEqProofs only [evs, reduceIte, rdRes, rdTT, rdTy, rdLT, Res.un, TT.un, Ty.un, LT.un, Leaf.un, Leaf.plain, LT.plain]
          · left
            refine ⟨((prodU (o.2.1.take (i + 1)), ((i + 1 : Nat) : Int)), hL [oS o]), ?_, ⟨i + 1, rfl, by omega, hall⟩, by simp only [Int.toNat_natCast]; omega⟩
            unfold spileref29_Few.loop1
            try simp -implicitDefEqProofs only [evs, reduceIte, rdRes, rdTT, rdTy, rdLT, Res.un, TT.un, Ty.un, LT.un, Leaf.un, Leaf.plain, LT.plain, hL_next, List.length_nil, Int.toNat_natCast, r1.2.1, guardO_pos hg]
            rw [decide_eq_true hg.2, cond_true, hrd]
            try simp -implicitDefEqProofs only [evs, reduceIte, rdRes, rdTT, rdTy, rdLT, Res.un, TT.un, Ty.un, LT.un, Leaf.un, Leaf.plain, LT.plain]
            rw [two, hb]
            try simp -implicitDefEqProofs only [evs, reduceIte, rdRes, rdTT, rdTy, rdLT, Res.un, TT.un, Ty.un, LT.un, Leaf.un, Leaf.plain, LT.plain, r1.2.1, guardO_pos hg]
            rw [hrd]
            try simp -implicitDefEqProofs only [evs, reduceIte, rdRes, rdTT, rdTy, rdLT, Res.un, TT.un, Ty.un, LT.un, Leaf.un, Leaf.plain, LT.plain]
            rw [hst, decide_eq_false hbig]
            try simp -implicitDefEqProofs only [evs, reduceIte, rdRes, rdTT, rdTy, rdLT, Res.un, TT.un, Ty.un, LT.un, Leaf.un, Leaf.plain, LT.plain]
            rw [i64_succ (by omega)]
      · right
        refine ⟨(.ex0 (prodU (o.2.1.take i)), hL [oS o]), ?_, .inr ⟨_, rfl⟩⟩
        unfold spileref29_Few.loop1
        try simp -implicitDefEqProofs only [evs, reduceIte, rdRes, rdTT, rdTy, rdLT, Res.un, TT.un, Ty.un, LT.un, Leaf.un, Leaf.plain, LT.plain, hL_next, List.length_nil, Int.toNat_natCast, r1.2.1]
        rw [decide_eq_false (by omega), cond_false]) FUEL _ ⟨0, rfl, Nat.zero_le _, rfl⟩ (by
      have := fuel_gt (n := o.2.1.length - (0 : Int).toNat) (by omega)
      exact this)
theorem rFew_ok (o : OrdT) : ∃ b, spileref29_FewP o = some b := by
  have r1 := rd_oS (sl := [oS o]) (id := 0) (o := o) rfl
  have three : ∀ (a b c : Nat) (h : H), (bif !(decide ((8 : Int) < (a : Int))) then (bif !(decide ((8 : Int) < (b : Int))) then some ((decide ((8 : Int) < (c : Int))), h) else some (true, h)) else some (true, h) : Option (Bool × H)) = some (!decide (a ≤ 8 ∧ b ≤ 8 ∧ c ≤ 8), h) := fun a b c h => by
    by_cases h1 : (8 : Int) < (a : Int)
    · rw [decide_eq_true h1, decide_eq_false (p := _ ∧ _) (by omega)]; rfl
    · rw [decide_eq_false h1]
      by_cases h2 : (8 : Int) < (b : Int)
      · rw [decide_eq_true h2, decide_eq_false (p := _ ∧ _) (by omega)]; rfl
      · rw [decide_eq_false h2]
        by_cases h3 : (8 : Int) < (c : Int)
        · rw [decide_eq_true h3, decide_eq_false (p := _ ∧ _) (by omega)]; rfl
        · rw [decide_eq_false h3, decide_eq_true (p := _ ∧ _) (by omega)]; rfl
  simp only [oS] at r1
  unfold spileref29_FewP spileref29_Few
  try simp -implicitDefEqProofs only [evs, reduceIte, rdRes, rdTT, rdTy, rdLT, Res.un, TT.un, Ty.un, LT.un, Leaf.un, Leaf.plain, LT.plain, hL_empty, hL_new, hL_next, List.nil_append, List.length_nil, r1.1, r1.2.1, r1.2.2.1]
  rw [three]
  try simp -implicitDefEqProofs only [evs, reduceIte, rdRes, rdTT, rdTy, rdLT, Res.un, TT.un, Ty.un, LT.un, Leaf.un, Leaf.plain, LT.plain]
  by_cases h8 : o.1.length ≤ 8 ∧ o.2.1.length ≤ 8 ∧ o.2.2.1.length ≤ 8
  · obtain ⟨x, l1, hx⟩ := rFew_loop h8.2.1
    simp only [oS] at l1 hx
    rw [decide_eq_true h8]
    try simp -implicitDefEqProofs only [evs, reduceIte, rdRes, rdTT, rdTy, rdLT, Res.un, TT.un, Ty.un, LT.un, Leaf.un, Leaf.plain, LT.plain]
    rw [l1]
    rcases hx with rfl | ⟨n, rfl⟩
    · simp -implicitDefEqProofs only [evs, reduceIte, rdRes, rdTT, rdTy, rdLT, Res.un, TT.un, Ty.un, LT.un, Leaf.un, Leaf.plain, LT.plain]
      exact ⟨_, rfl⟩
    · simp -implicitDefEqProofs only [evs, reduceIte, rdRes, rdTT, rdTy, rdLT, Res.un, TT.un, Ty.un, LT.un, Leaf.un, Leaf.plain, LT.plain]
      exact ⟨_, rfl⟩
  · rw [decide_eq_false h8]
    try simp -implicitDefEqProofs only [evs, reduceIte, rdRes, rdTT, rdTy, rdLT, Res.un, TT.un, Ty.un, LT.un, Leaf.un, Leaf.plain, LT.plain]
    exact ⟨_, rfl⟩
theorem best_len (xs : List (Int × Int)) (o : OrdT) : (bestOf xs o).1.length ≤ 4 := by
  unfold bestOf
  by_cases hc : bcheckOf xs o = 0
  · have h := bcheck_iff.1 hc
    rw [if_pos hc]
    cases hb : bestO xs o with
    | none => simp
    | some a =>
      have := better_ok (m := costO o) h (L := plansL o.2.1) (fun u hu => plan_ok h hu) a hb
      have h1 := this.len
      have h2 := h.l4
      simp only
      omega
  · rw [if_neg hc]; simp
theorem most_len (xs : List (Int × Int)) (o : OrdT) : (mostOf xs o).1.length ≤ 4 := by
  unfold mostOf
  by_cases hc : bcheckOf xs o = 0
  · have h := bcheck_iff.1 hc
    rw [if_pos hc]
    cases hb : mostO xs o with
    | none => simp
    | some a =>
      have := better_ok (m := fun u => -u.sum) h (L := plansL o.2.1) (fun u hu => plan_ok h hu) a hb
      have h1 := this.len
      have h2 := h.l4
      simp only
      omega
  · rw [if_neg hc]; simp
theorem BlendPlans_ok (xs : List (Int × Int)) (o : OrdT) : spilelaw29_BlendPlansP xs o = some true := by
  obtain ⟨b, hb⟩ := Few16_ok xs
  obtain ⟨b', hb'⟩ := rFew_ok o
  have q1 := rds_oS (sl := [oS o]) (id := 0) (o := o) rfl
  simp only [oS] at q1
  unfold spilelaw29_BlendPlansP spilelaw29_BlendPlans
  try simp -implicitDefEqProofs only [awake29, evs, reduceIte, rdRes, rdTT, rdTy, rdLT, Res.un, TT.un, Ty.un, LT.un, Leaf.un, Leaf.plain, LT.plain, hL_empty, hL_new, hL_next, List.nil_append, List.length_nil, hb]
  cases b with
  | false => simp -implicitDefEqProofs only [evs, reduceIte, rdRes, rdTT, rdTy, rdLT, Res.un, TT.un, Ty.un, LT.un, Leaf.un, Leaf.plain, LT.plain]
  | true =>
    try simp -implicitDefEqProofs only [evs, reduceIte, rdRes, rdTT, rdTy, rdLT, Res.un, TT.un, Ty.un, LT.un, Leaf.un, Leaf.plain, LT.plain, q1]
    try simp -implicitDefEqProofs only [evs, reduceIte, rdRes, rdTT, rdTy, rdLT, Res.un, TT.un, Ty.un, LT.un, Leaf.un, Leaf.plain, LT.plain, ord_eta, hb']
    cases b' with
    | false => simp -implicitDefEqProofs only [evs, reduceIte, rdRes, rdTT, rdTy, rdLT, Res.un, TT.un, Ty.un, LT.un, Leaf.un, Leaf.plain, LT.plain]
    | true =>
      have e1 := Best_ok xs o
      have e2 := rBest_ok xs o
      have e3 := Bound_ok xs o
      have e4 := rBound_ok xs o
      have e5 := Most_ok xs o
      have e6 := rMost_ok xs o
      have k1 : (bestOf xs o).1.length < 2 ^ 63 := by have := best_len xs o; omega
      have k2 : (mostOf xs o).1.length < 2 ^ 63 := by have := most_len xs o; omega
      generalize bestOf xs o = f at e1 e2 k1
      generalize boundOf xs o = g at e3 e4
      generalize mostOf xs o = m at e5 e6 k2
      obtain ⟨f1, f2, f3⟩ := f
      obtain ⟨g1, g2⟩ := g
      obtain ⟨m1, m2, m3⟩ := m
      try simp -implicitDefEqProofs only [evs, reduceIte, rdRes, rdTT, rdTy, rdLT, Res.un, TT.un, Ty.un, LT.un, Leaf.un, Leaf.plain, LT.plain, q1]
      try simp -implicitDefEqProofs only [evs, reduceIte, rdRes, rdTT, rdTy, rdLT, Res.un, TT.un, Ty.un, LT.un, Leaf.un, Leaf.plain, LT.plain, ord_eta, e1, e2, e3, e4, e5, e6]
      rw [EqualI_ok f1 f1 k1, EqualI_ok m1 m1 k2]
      try simp -implicitDefEqProofs only [evs, reduceIte, rdRes, rdTT, rdTy, rdLT, Res.un, TT.un, Ty.un, LT.un, Leaf.un, Leaf.plain, LT.plain, eq_self, decide_true]
end Go.Proofs.Ytfkabibbaajfhaa
