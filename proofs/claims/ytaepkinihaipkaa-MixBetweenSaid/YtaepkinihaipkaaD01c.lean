/- What Divide of the reference of package proportion computes. Conditions: those of each law. -/
import Derived.Test.YtaepkinihaipkaaD01b
namespace Go.Proofs.Ytaepkinihaipkaa
open Go Go.Proofs.Ytaepkinihaipkaa.Ev
set_option linter.unusedVariables false
set_option linter.unusedSimpArgs false
set_option maxRecDepth 100000
set_option maxHeartbeats 4000000
/-- The first of the greatest. -/
def bestN (rs : List Int) : Nat → Nat
  | 0 => 0
  | i + 1 => if g rs (bestN rs i) < g rs i then i else bestN rs i
theorem bestN_ok (rs : List Int) : ∀ (n : Nat), (bestN rs n = 0 ∨ bestN rs n < n) ∧ ∀ j, j < n → g rs j ≤ g rs (bestN rs n) ∧ (j < bestN rs n → g rs j < g rs (bestN rs n))
  | 0 => ⟨.inl rfl, fun j h => by omega⟩
  | n + 1 => by
    obtain ⟨h1, h2⟩ := bestN_ok rs n
    simp only [bestN]
    split
    · rename_i h
      refine ⟨.inr (by omega), fun j hj => ?_⟩
      by_cases e : j = n
      · subst e; exact ⟨Int.le_refl _, fun h => by omega⟩
      · have := h2 j (by omega); exact ⟨by omega, fun _ => by omega⟩
    · rename_i h
      refine ⟨by omega, fun j hj => ?_⟩
      by_cases e : j = n
      · subst e; exact ⟨by omega, fun h' => by omega⟩
      · exact h2 j (by omega)
/-- The rests, those at the first places of an order crossed out. -/
def mark (rs os : List Int) (k : Nat) : List Int := (List.range rs.length).map fun i : Nat => if (i : Int) ∈ os.take k then -1 else g rs i
theorem mark_length {rs os : List Int} {k : Nat} : (mark rs os k).length = rs.length := by simp [mark]
theorem g_mark {rs os : List Int} {k i : Nat} (h : i < rs.length) : g (mark rs os k) i = if (i : Int) ∈ os.take k then -1 else g rs i := g_ofFn h
theorem mark_zero {rs os : List Int} : mark rs os 0 = rs := g_ext mark_length fun k hk => by
  rw [mark_length] at hk
  rw [g_mark hk]; simp
theorem mark_succ {rs os : List Int} {k x : Nat} (hk : k < os.length) (hx : g os k = (x : Int)) (hq : x < rs.length) : (mark rs os k).set x (-1) = mark rs os (k + 1) := by
  refine g_ext (by simp [mark_length]) fun i hi => ?_
  rw [List.length_set, mark_length] at hi
  rw [g_set (by rw [mark_length]; exact hq)]
  have ht : os.take (k + 1) = os.take k ++ [(x : Int)] := by rw [← List.take_append_getElem hk, ← g_eq hk, hx]
  by_cases e : i = x
  · subst e; rw [if_pos rfl, g_mark hi, ht, if_pos (by simp)]
  · rw [if_neg e, g_mark hi, g_mark hi, ht]
    by_cases h : (i : Int) ∈ os.take k
    · rw [if_pos h, if_pos (by simp [h])]
    · rw [if_neg h, if_neg (by simp [h]; omega)]
theorem mem_take_ord {rs : List Int} {k p : Nat} (hp : p < rs.length) (hk : k ≤ rs.length) : g (ord rs) p ∈ (ord rs).take k ↔ p < k := by
  constructor
  · intro h
    obtain ⟨j, hj, e⟩ := List.getElem_of_mem h
    rw [List.getElem_take] at e
    have hj' : j < k := by simp at hj; omega
    rw [← g_eq] at e
    rcases Nat.lt_trichotomy p j with h1 | h1 | h1
    · omega
    · omega
    · have := ord_lt (rs := rs) h1 hp
      rw [e] at this
      exact absurd this ltR_irrefl
  · intro h
    rw [g_eq (by rw [ord_length]; exact hp)]
    exact List.mem_iff_getElem.2 ⟨p, by rw [List.length_take, ord_length]; omega, by rw [List.getElem_take]⟩
theorem best_mark {rs : List Int} {k : Nat} (hk : k < rs.length) (h0 : ∀ r ∈ rs, 0 ≤ r) : (bestN (mark rs (ord rs) k) rs.length : Int) = g (ord rs) k := by
  obtain ⟨h1, h2⟩ := bestN_ok (mark rs (ord rs) k) rs.length
  generalize bestN (mark rs (ord rs) k) rs.length = b at *
  have hb : b < rs.length := by omega
  have hok := ord_range (rs := rs) hk
  obtain ⟨x, hx⟩ : ∃ x : Nat, g (ord rs) k = (x : Int) := ⟨(g (ord rs) k).toNat, by omega⟩
  rw [hx] at hok ⊢
  have hxn : x < rs.length := by omega
  have hxm : ¬ ((x : Int) ∈ (ord rs).take k) := by rw [← hx, mem_take_ord hk (by omega)]; omega
  have k1 := h2 x hxn
  rw [g_mark hxn, if_neg hxm] at k1
  have hx0 := h0 _ (g_mem hxn)
  have hbm : ¬ ((b : Int) ∈ (ord rs).take k) := fun h => by
    rw [g_mark hb, if_pos h] at k1; omega
  rw [g_mark hb, if_neg hbm] at k1
  obtain ⟨p, hp, hpe⟩ := mem_g (xs := ord rs) (x := (b : Int)) (ord_perm.mem_iff.2 (mem_iota.2 ⟨by omega, by omega⟩))
  rw [ord_length] at hp
  rw [← hpe, mem_take_ord hp (by omega)] at hbm
  rcases Nat.lt_or_ge k p with h | h
  · have := ord_lt (rs := rs) h hp
    rw [hx, hpe] at this
    unfold ltR at this
    simp only [Int.toNat_natCast] at this
    omega
  · have : p = k := by omega
    subst this
    rw [← hpe, hx]
/-- The heap of the reference's Divide. -/
def eH (p r : List Int) : H := hL [cellI p, cellI r]
theorem eH_rd0 {p r : List Int} {n k : Nat} (hn : p.length = n) : rdT (.leaf (.int .i64)) (eH p r) (.hp 0 n (k * 1)) = p[k]? := by
  unfold eH
  rw [rd_ownL0 (ls := [.int .i64]) (xs := p) (w := 1) (e := 1) rfl (by simp [hn]) rfl (by omega)]
  cases p[k]? <;> simp [LT.lo, Leaf.lo, Leaf.pack]
theorem eH_rd1 {p r : List Int} {n k : Nat} (hn : r.length = n) : rdT (.leaf (.int .i64)) (eH p r) (.hp 1 n (k * 1)) = r[k]? := by
  unfold eH
  rw [rd_ownL0 (ls := [.int .i64]) (xs := r) (w := 1) (e := 1) rfl (by simp [hn]) rfl (by omega)]
  cases r[k]? <;> simp [LT.lo, Leaf.lo, Leaf.pack]
theorem eH_wr0 {p r : List Int} {n k : Nat} {x : Int} (hn : p.length = n) (hk : k < n) : H.wrs (eH p r) (.hp 0 n (k * 1)) [.int .i64 x] = some (eH (p.set k x) r) := by
  unfold eH
  rw [wrs_ownL (ls := [.int .i64]) (xs := p) (w := 1) (e := 1) (x := x) (vs := [.int .i64 x]) rfl (by simp [hn]) rfl (by omega) rfl]
  rfl
theorem eH_wr1 {p r : List Int} {n k : Nat} {x : Int} (hn : r.length = n) (hk : k < n) : H.wrs (eH p r) (.hp 1 n (k * 1)) [.int .i64 x] = some (eH p (r.set k x)) := by
  unfold eH
  rw [wrs_ownL (ls := [.int .i64]) (xs := r) (w := 1) (e := 1) (x := x) (vs := [.int .i64 x]) rfl (by simp [hn]) rfl (by omega) rfl]
  rfl
theorem ownSV_len {id n : Nat} {ls : List Leaf} : (ownSV id ls n).len = n := congrArg SV.len (Eq.refl _)
theorem ownSV_ptr {id n : Nat} {ls : List Leaf} : (ownSV id ls n).a = V.hp id (n * ls.length) 0 := congrArg SV.a (Eq.refl _)
def accI (id i : Nat) : SV := if i = 0 then ⟨.nil, 0, 0, false⟩ else ownSV id [.int .i64] i
def accHI (p r : List Int) (i : Nat) : H := if i = 0 then hL [] else eH (p.take i) (r.take i)
theorem accI_step {p r : List Int} {i : Nat} (hp : i < p.length) (hr : i < r.length) (hl : p.length ≤ 64) {R : Type} (K : SV → SV → H → Option R) :
    ((appendS (accHI p r i) none 1 8 (accI 0 i) [.int .i64 p[i]] 1).bind fun x => (appendS x.2 none 1 8 (accI 1 i) [.int .i64 r[i]] 1).bind fun y => K x.1 y.1 y.2) = K (accI 0 (i + 1)) (accI 1 (i + 1)) (accHI p r (i + 1)) := by
  unfold accI accHI
  rw [if_neg (c := i + 1 = 0) (by omega), if_neg (c := i + 1 = 0) (by omega), if_neg (c := i + 1 = 0) (by omega)]
  by_cases h : i = 0
  · subst h
    simp only [if_true]
    have a1 := append_nil (ls := [.int .i64]) (sl := []) (w := 1) (b := 8) (x := p[0]) (vs := [.int .i64 p[0]]) rfl (by omega) rfl
    unfold nilSV at a1
    rw [a1]
    simp -implicitDefEqProofs only [Option.bind_some]
    have a2 := append_nil (ls := [.int .i64]) (sl := [cellI [p[0]]]) (w := 1) (b := 8) (x := r[0]) (vs := [.int .i64 r[0]]) rfl (by omega) rfl
    unfold nilSV at a2
    simp only [List.nil_append]
    rw [a2]
    simp -implicitDefEqProofs only [Option.bind_some]
    unfold eH
    rw [show p.take (0 + 1) = [p[0]] by rw [← List.take_append_getElem hp]; simp, show r.take (0 + 1) = [r[0]] by rw [← List.take_append_getElem hr]; simp]
    rfl
  · simp only [if_neg h]
    unfold eH
    have lp : (p.take i).length = i := by rw [List.length_take]; omega
    have lr : (r.take i).length = i := by rw [List.length_take]; omega
    have a1 := append_own (ls := [.int .i64]) (xs := p.take i) (sl := [cellI (p.take i), cellI (r.take i)]) (id := 0) (w := 1) (b := 8) (at_ := none) (x := p[i]) (vs := [.int .i64 p[i]]) rfl rfl (by omega) (by omega) (by omega) (by omega) rfl
    rw [List.take_append_getElem hp, lp] at a1
    rw [a1]
    simp -implicitDefEqProofs only [Option.bind_some]
    have a2 := append_own (ls := [.int .i64]) (xs := r.take i) (sl := [cellI (p.take (i + 1)), cellI (r.take i)]) (id := 1) (w := 1) (b := 8) (at_ := none) (x := r[i]) (vs := [.int .i64 r[i]]) rfl rfl (by omega) (by omega) (by omega) (by omega) rfl
    rw [List.take_append_getElem hr, lr] at a2
    simp only [List.set_cons_zero, List.set_cons_succ] at a1 a2 ⊢
    rw [a2]
    simp -implicitDefEqProofs only [Option.bind_some]
    rw [show (p.take (i + 1)).length = i + 1 by rw [List.length_take]; omega, show (r.take (i + 1)).length = i + 1 by rw [List.length_take]; omega]
theorem rdivide_loop1 {a S : Int} {ws : List Int} {f : Bool} (ha : isAmt a = true) (hws : ws.all isAmt = true) (hS : isAmt S = true) (hS0 : 0 < S) (hSw : ∀ w ∈ ws, w ≤ S) (hsum : (quos a S ws).sum ≤ a) (hl : ws.length ≤ 64) (hpos : 0 < ws.length) :
    iter FUEL (spileref01_Divide.loop1 a (rowSV f [.int .i64] ws) S) ((⟨.nil, 0, 0, false⟩, ⟨.nil, 0, 0, false⟩, a, 0), hL []) =
      some (.ex0 (ownSV 0 [.int .i64] ws.length, ownSV 1 [.int .i64] ws.length, a - (quos a S ws).sum), eH (quos a S ws) (rems a S ws)) := by
  have hq := quo_nonneg (a := a) (S := S) (ws := ws) (isAmt_iff.1 ha).1 hS0 (fun w hw => (all_amt hws w hw).1)
  have ha' := isAmt_iff.1 ha
  have hS' := isAmt_iff.1 hS
  have hql := quos_length (a := a) (S := S) (ws := ws)
  have hrl := rems_length (a := a) (S := S) (ws := ws)
  refine (iter_from (f := spileref01_Divide.loop1 a (rowSV f [.int .i64] ws) S) (fun i => ((accI 0 i, accI 1 i, a - ((quos a S ws).take i).sum, (i : Int)), accHI (quos a S ws) (rems a S ws) i)) ?_ ws.length FUEL (fun i hi => ?_) ?_ (fuel_gt (by omega)))
  · simp only [List.take_zero, List.sum_nil, Int.sub_zero]
    rfl
  · have hw := all_amt hws _ (List.getElem_mem hi)
    have hwS := hSw _ (List.getElem_mem hi)
    have hx := List.getElem?_eq_getElem hi
    have hgq : (quos a S ws)[i]'(by rw [hql]; exact hi) = a * ws[i] / S := by simp [quos]
    have hgr : (rems a S ws)[i]'(by rw [hrl]; exact hi) = a * ws[i] % S := by simp [rems]
    have k1 := sum_take_le hq i
    have k2 := sum_take_le hq (i + 1)
    have k3 := sum_take_succ (ws := quos a S ws) (i := i) (by rw [hql]; exact hi)
    unfold spileref01_Divide.loop1
    simp -implicitDefEqProofs only [rowSV_len, Int.toNat_natCast]
    rw [decide_eq_true (by omega), cond_true, guardO_pos (by omega), rd_rowI, hx]
    simp -implicitDefEqProofs only [Option.bind_some]
    rw [rProportion_ok ha (isAmt_iff.2 hw) hS (by omega), divOf_small ha hS0 hw.1 hwS, ← hgq, ← hgr]
    simp -implicitDefEqProofs only [Option.bind_some]
    have := accI_step (p := quos a S ws) (r := rems a S ws) (i := i) (by rw [hql]; exact hi) (by rw [hrl]; exact hi) (by omega) (fun s t h => (some (Stp.more ((s, t, IntKind.wrap .i64 (a - ((quos a S ws).take i).sum - (quos a S ws)[i]'(by rw [hql]; exact hi)), IntKind.wrap .i64 ((i : Int) + 1)), h)) : Option (Stp ((SV × SV × Int × Int) × H) (Flow (SV × SV × Int) (SV × Int) × H))))
    rw [this, i64_in _ (by omega), i64_succ (by omega), show a - ((quos a S ws).take i).sum - (quos a S ws)[i]'(by rw [hql]; exact hi) = a - ((quos a S ws).take (i + 1)).sum by omega]
  · unfold spileref01_Divide.loop1
    simp -implicitDefEqProofs only [rowSV_len]
    rw [decide_eq_false (by omega), cond_false]
    unfold accI accHI
    rw [if_neg (by omega), if_neg (by omega), if_neg (by omega)]
    have e1 := List.take_length (l := quos a S ws)
    have e2 := List.take_length (l := rems a S ws)
    rw [hql] at e1
    rw [hrl] at e2
    rw [e1, e2]
theorem rdivide_loop2 {p r : List Int} {n : Nat} (hr : r.length = n) (hn : n ≤ 64) (h0 : 0 < n) :
    iter FUEL (spileref01_Divide.loop2 (ownSV 1 [.int .i64] n)) ((0, 0), eH p r) = some (.ex0 ((bestN r n : Nat) : Int), eH p r) := by
  refine (iter_from (f := spileref01_Divide.loop2 (ownSV 1 [.int .i64] n)) (fun i => ((((bestN r i : Nat) : Int), (i : Int)), eH p r)) rfl n FUEL (fun i hi => ?_) ?_ (fuel_gt (by omega)))
  · have hb := (bestN_ok r i).1
    unfold spileref01_Divide.loop2
    simp -implicitDefEqProofs only [Int.toNat_natCast, reserve0, ownSV_len, ownSV_ptr, List.length_cons, List.length_nil, Nat.zero_add, Nat.mul_one]
    have d1 := eH_rd1 (p := p) (r := r) (n := n) (k := i) hr
    have d2 := eH_rd1 (p := p) (r := r) (n := n) (k := bestN r i) hr
    rw [Nat.mul_one, g_some (by omega)] at d1 d2
    rw [decide_eq_true (by omega), cond_true, guardO_pos (by omega), add_hp, d1]
    simp -implicitDefEqProofs only [Option.bind_some]
    rw [guardO_pos (by omega), add_hp, d2]
    simp -implicitDefEqProofs only [Option.bind_some, bestN]
    rw [i64_succ (by omega)]
    by_cases h : g r (bestN r i) < g r i
    · rw [decide_eq_true h, if_pos h]; rfl
    · rw [decide_eq_false h, if_neg h]; rfl
  · unfold spileref01_Divide.loop2
    simp -implicitDefEqProofs only [ownSV_len]
    rw [decide_eq_false (by omega), cond_false]
theorem rdivide_loop3 {qs rs : List Int} {n k : Nat} (hq : qs.length = n) (hr : rs.length = n) (hk : k ≤ n) (hn : n ≤ 64) (hb : ∀ q ∈ qs, 0 ≤ q ∧ q ≤ 128849018880000) (h0 : ∀ r ∈ rs, 0 ≤ r) :
    iter FUEL (spileref01_Divide.loop3 (ownSV 0 [.int .i64] n) (ownSV 1 [.int .i64] n)) ((k : Int), eH qs rs) = some (.ex0 (), eH (bump qs (ord rs) k) (mark rs (ord rs) k)) := by
  refine (iter_from (f := spileref01_Divide.loop3 (ownSV 0 [.int .i64] n) (ownSV 1 [.int .i64] n)) (fun i => (((k - i : Nat) : Int), eH (bump qs (ord rs) i) (mark rs (ord rs) i))) ?_ k FUEL (fun i hi => ?_) ?_ (fuel_gt (by omega)))
  · rw [bump_zero, mark_zero]; rfl
  · have hri := ord_range (rs := rs) (p := i) (by omega)
    obtain ⟨x, hx⟩ : ∃ x : Nat, g (ord rs) i = (x : Int) := ⟨(g (ord rs) i).toNat, by omega⟩
    have hxn : x < n := by omega
    have hbest := best_mark (rs := rs) (k := i) (by omega) h0
    rw [hx, hr] at hbest
    have hqx := hb (g qs x) (g_mem (by omega))
    have hgb := g_bump (qs := qs) (os := ord rs) (k := i) (i := x) (by omega)
    have hle : g (bump qs (ord rs) i) x ≤ 128849018880001 ∧ 0 ≤ g (bump qs (ord rs) i) x := by
      rw [hgb]; split <;> omega
    unfold spileref01_Divide.loop3
    simp -implicitDefEqProofs only []
    rw [decide_eq_true (by omega), cond_true, rdivide_loop2 (by rw [mark_length, hr]) hn (by omega), hbest]
    simp -implicitDefEqProofs only [Option.bind_some, Int.toNat_natCast, ownSV_len, ownSV_ptr, List.length_cons, List.length_nil, Nat.zero_add, Nat.mul_one]
    have hgx : 0 ≤ (x : Int) ∧ (x : Int) < (n : Int) := by omega
    have d0 := eH_rd0 (p := bump qs (ord rs) i) (r := mark rs (ord rs) i) (n := n) (k := x) (by rw [bump_length, hq])
    rw [Nat.mul_one, g_some (by rw [bump_length]; omega)] at d0
    rw [guardO_pos hgx, add_hp, d0]
    simp -implicitDefEqProofs only [Option.bind_some]
    have d1 := eH_wr0 (p := bump qs (ord rs) i) (r := mark rs (ord rs) i) (n := n) (k := x) (x := g (bump qs (ord rs) i) x + 1) (by rw [bump_length, hq]) hxn
    rw [Nat.mul_one, bump_succ ord_nodup (by rw [ord_length]; omega) hx (by omega)] at d1
    rw [guardO_pos hgx, i64_in _ (by omega), d1]
    simp -implicitDefEqProofs only [Option.bind_some]
    have d2 := eH_wr1 (p := bump qs (ord rs) (i + 1)) (r := mark rs (ord rs) i) (n := n) (k := x) (x := -1) (by rw [mark_length, hr]) hxn
    rw [Nat.mul_one, mark_succ (by rw [ord_length]; omega) hx (by omega)] at d2
    rw [guardO_pos hgx, add_hp, d2]
    simp -implicitDefEqProofs only [Option.bind_some]
    rw [i64n (z := ((k - i : Nat) : Int) - 1) (m := k - (i + 1)) (by omega) (by omega)]
  · unfold spileref01_Divide.loop3
    simp -implicitDefEqProofs only []
    rw [decide_eq_false (by omega), cond_false]
theorem rDivide_ok (a : Int) (ws : List Int) (hl : ws.length < 2 ^ 63) : spileref01_DivideP a ws = some (divideOf a ws) := by
  unfold spileref01_DivideP spileref01_Divide divideOf
  simp -implicitDefEqProofs only [Option.bind_some, Option.bind_none, Option.map_some, Option.map_none, cond_true, cond_false, Bool.not_true, Bool.not_false, if_true, if_false, reduceIte, rdRes, rdTT, rdTy, rdLT, rdLeaf_int, rdLeaf_bool, rdLeaf_str, rdLeaf_row, Res.un, TT.un, Ty.un, LT.un, Leaf.un, rdRow_i1, rdRow_i2, rdRow_i3, rdRow_i4, rdRow_i5, rdRow_args, rdRow_res, rdRow_nil, Leaf.plain, LT.plain, List.isEmpty_cons, Bool.and_self, Bool.and_true, Bool.true_and, Bool.or_true, Bool.true_or, Bool.or_false, Bool.false_or, reserve0, rowSV_len, rowSV_cap, rowSV_tail, guardO_true, rweigh_ok a ws hl]
  by_cases he : (weighOf a ws).2 = 0
  · rw [if_pos he, he]
    obtain ⟨ha, h0, h64, hall, hSa, hne, h1⟩ := weighOf_ok he
    rw [h1]
    have hS' := isAmt_iff.1 hSa
    have hlb := left_bound (a := a) (ws := ws) (by omega) h0
    have ha' := isAmt_iff.1 ha
    have hl1 := rdivide_loop1 (f := false) ha hall hSa (by omega) (fun w hw => mem_le_sum (fun y hy => (all_amt hall y hy).1) hw) (by omega) h64 h0
    simp -implicitDefEqProofs only [decide_true, Bool.not_true, cond_false, hL_empty]
    rw [hl1]
    obtain ⟨left, hleft⟩ : ∃ k : Nat, a - (quos a ws.sum ws).sum = (k : Int) := ⟨(a - (quos a ws.sum ws).sum).toNat, by omega⟩
    simp -implicitDefEqProofs only [Option.bind_some, hleft]
    have hl3 := rdivide_loop3 (qs := quos a ws.sum ws) (rs := rems a ws.sum ws) (n := ws.length) (k := left) quos_length rems_length (by omega) h64 (fun q hq => by
        obtain ⟨w, hw, rfl⟩ := List.mem_map.1 hq
        have k1 := all_amt hall w hw
        have k2 := mem_le_sum (fun y hy => (all_amt hall y hy).1) hw
        have k3 := quo_le (a := a) (S := ws.sum) (w := w) ha'.1 (by omega) k2
        exact ⟨Int.ediv_nonneg (Int.mul_nonneg ha'.1 k1.1) (by omega), by omega⟩) (fun r hr => by
        obtain ⟨w, hw, rfl⟩ := List.mem_map.1 hr
        exact Int.emod_nonneg _ (by omega))
    rw [hl3]
    simp -implicitDefEqProofs only [Option.bind_some]
    unfold divParts
    rw [hleft, Int.toNat_natCast]
    have hb : (bump (quos a ws.sum ws) (ord (rems a ws.sum ws)) left).length = ws.length := by rw [bump_length, quos_length]
    have hread := rdRow_own (lp := false) (ls := [.int .i64]) (xs := bump (quos a ws.sum ws) (ord (rems a ws.sum ws)) left) (sl := [cellI (bump (quos a ws.sum ws) (ord (rems a ws.sum ws)) left), cellI (mark (rems a ws.sum ws) (ord (rems a ws.sum ws)) left)]) (id := 0) (e := 1) (n := ws.length * 1) (c := ws.length) (t := true) rfl (by rw [hb]; simp) rfl
    rw [hb] at hread
    unfold eH ownSV
    simp -implicitDefEqProofs only [List.length_cons, List.length_nil, Nat.zero_add]
    rw [hread]
    rfl
  · rw [if_neg he, decide_eq_false he]
    simp -implicitDefEqProofs only [Option.bind_some, Option.bind_none, Option.map_some, Option.map_none, cond_true, cond_false, Bool.not_true, Bool.not_false, if_true, if_false, reduceIte, rdRes, rdTT, rdTy, rdLT, rdLeaf_int, rdLeaf_bool, rdLeaf_str, rdLeaf_row, Res.un, TT.un, Ty.un, LT.un, Leaf.un, rdRow_i1, rdRow_i2, rdRow_i3, rdRow_i4, rdRow_i5, rdRow_args, rdRow_res, rdRow_nil, Leaf.plain, LT.plain, List.isEmpty_cons, Bool.and_self, Bool.and_true, Bool.true_and, Bool.or_true, Bool.true_or, Bool.or_false, Bool.false_or, reserve0, rowSV_len, rowSV_cap, rowSV_tail, guardO_true]
end Go.Proofs.Ytaepkinihaipkaa
