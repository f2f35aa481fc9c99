/- slices.SortFunc on a row of the call's own, by what its elements say, told by the shelf's contract. Conditions: the elements differ by the order. -/
import Derived.Test.YtjkjcnadgpndoaaGreatEvSpec
import Derived.Shelf.SlSortCmp.WholeK
import Derived.Shelf.SlSortCmp.NoneTotal
namespace Go.Proofs.YtjkjcnadgpndoaaGreat.Ev
open Go Go.RowKit Go.Sort Go.Proofs
set_option linter.unusedVariables false
set_option linter.unusedSimpArgs false

def insB {α : Type} (c : α → α → Int) (x : α) : List α → List α
  | [] => [x]
  | y :: l => if c x y ≤ 0 then x :: y :: l else y :: insB c x l
def sortB {α : Type} (c : α → α → Int) (l : List α) : List α := l.foldr (insB c) []
theorem insB_perm {α : Type} {c : α → α → Int} {x : α} : ∀ {l : List α}, (insB c x l).Perm (x :: l)
  | [] => List.Perm.refl _
  | y :: l => by
    unfold insB
    split
    · exact List.Perm.refl _
    · exact (List.Perm.cons y insB_perm).trans (List.Perm.swap x y l)
theorem sortB_perm {α : Type} {c : α → α → Int} : ∀ {l : List α}, (sortB c l).Perm l
  | [] => List.Perm.refl _
  | x :: l => insB_perm.trans (List.Perm.cons x sortB_perm)
/-- An order by a number's sign. -/
structure Ord3 {α : Type} (c : α → α → Int) : Prop where
  refl : ∀ x, c x x = 0
  anti : ∀ x y, c x y < 0 ↔ 0 < c y x
  trans : ∀ x y z, c x y < 0 → c y z < 0 → c x z < 0
  eq : ∀ x y z, c x y = 0 → c y z < 0 → c x z < 0
  eq2 : ∀ x y z, c x y < 0 → c y z = 0 → c x z < 0
theorem Ord3.zero {α : Type} {c : α → α → Int} (o : Ord3 c) {x y : α} (h : c x y = 0) : c y x = 0 := by
  have h1 := o.anti x y
  have h2 := o.anti y x
  omega
theorem Ord3.swo {α : Type} {c : α → α → Int} (o : Ord3 c) : SWO (ltOf c) where
  irrefl x := by unfold ltOf; rw [o.refl]; rfl
  trans x y z h1 h2 := by unfold ltOf at *; simp only [decide_eq_true_eq] at *; exact o.trans x y z h1 h2
  ntrans x y z h1 h2 := by
    unfold ltOf at *
    simp only [decide_eq_false_iff_not, Int.not_lt] at *
    have ax := o.anti x z
    have a1 := o.anti x y
    have a2 := o.anti y z
    have b1 := o.anti y x
    have b2 := o.anti z y
    have b3 := o.anti z x
    rcases Int.lt_or_le 0 (c x y) with h3 | h3
    · rcases Int.lt_or_le 0 (c y z) with h4 | h4
      · have := o.trans z y x (b2.2 h4) (b1.2 h3)
        omega
      · have e : c y z = 0 := by omega
        have := o.eq z y x (o.zero e) (b1.2 h3)
        omega
    · have e : c x y = 0 := by omega
      rcases Int.lt_or_le 0 (c y z) with h4 | h4
      · have := o.eq2 z y x (b2.2 h4) (o.zero e)
        omega
      · have e2 : c y z = 0 := by omega
        apply Int.not_lt.1
        intro h
        have := o.eq y x z (o.zero e) h
        omega
theorem insB_sorted {α : Type} {c : α → α → Int} (o : Ord3 c) {x : α} : ∀ {l : List α}, l.Pairwise (fun a b => c a b < 0) → (∀ y ∈ l, c x y ≠ 0) → (insB c x l).Pairwise (fun a b => c a b < 0)
  | [], _, _ => by simp [insB]
  | y :: l, h, hne => by
    obtain ⟨h1, h2⟩ := List.pairwise_cons.1 h
    unfold insB
    split
    · rename_i hle
      have hxy : c x y < 0 := by have := hne y (by simp); omega
      refine List.pairwise_cons.2 ⟨fun z hz => ?_, h⟩
      rcases List.mem_cons.1 hz with rfl | hz
      · exact hxy
      · exact o.trans x y z hxy (h1 z hz)
    · rename_i hgt
      refine List.pairwise_cons.2 ⟨fun z hz => ?_, insB_sorted o h2 (fun z hz => hne z (by simp [hz]))⟩
      rcases List.mem_cons.1 (insB_perm.mem_iff.1 hz) with rfl | hz
      · exact (o.anti y z).2 (by omega)
      · exact h1 z hz
theorem sortB_sorted {α : Type} {c : α → α → Int} (o : Ord3 c) : ∀ {l : List α}, l.Pairwise (fun a b => c a b ≠ 0) → (sortB c l).Pairwise (fun a b => c a b < 0)
  | [], _ => List.Pairwise.nil
  | x :: l, h => by
    obtain ⟨h1, h2⟩ := List.pairwise_cons.1 h
    exact insB_sorted o (sortB_sorted o h2) fun y hy => h1 y (sortB_perm.mem_iff.1 hy)
theorem sorted_unique {α : Type} {c : α → α → Int} (o : Ord3 c) : ∀ {l l' : List α}, l.Perm l' → l.Pairwise (fun a b => c a b < 0) → l'.Pairwise (fun a b => c a b < 0) → l = l'
  | [], l', hp, _, _ => hp.nil_eq
  | x :: l, l', hp, h1, h2 => by
    cases l' with
    | nil => exact absurd hp.symm.nil_eq (by simp)
    | cons y l' =>
      obtain ⟨a1, a2⟩ := List.pairwise_cons.1 h1
      obtain ⟨b1, b2⟩ := List.pairwise_cons.1 h2
      have hxy : x = y := by
        by_cases e : x = y
        · exact e
        have hx : x ∈ l' := by
          rcases List.mem_cons.1 (hp.mem_iff.1 (List.mem_cons_self)) with h | h
          · exact absurd h e
          · exact h
        have hy : y ∈ l := by
          rcases List.mem_cons.1 (hp.mem_iff.2 (List.mem_cons_self)) with h | h
          · exact absurd h.symm e
          · exact h
        have := a1 y hy
        have := (o.anti y x).1 (b1 x hx)
        omega
      subst hxy
      rw [sorted_unique o (List.Perm.cons_inv hp) a2 b2]
/-! ### Rows of elements of several cells -/
section flat
variable {α : Type} [Inhabited α] {enc : α → List Value} {k : Nat}
theorem flatMap_at {β γ : Type} (f : β → List γ) (k : Nat) (hk : ∀ x, (f x).length = k) (h0 : 0 < k) : ∀ (l : List β) (t : Nat), (l.flatMap f)[t]? = (l[t / k]?).bind fun x => (f x)[t % k]?
  | [], t => by simp
  | x :: l, t => by
    rw [List.flatMap_cons]
    rcases Nat.lt_or_ge t k with h | h
    · rw [List.getElem?_append_left (by rw [hk]; exact h), Nat.div_eq_of_lt h, Nat.mod_eq_of_lt h]
      simp
    · rw [List.getElem?_append_right (by rw [hk]; exact h), hk, flatMap_at f k hk h0 l]
      have h1 : t / k = (t - k) / k + 1 := by rw [Nat.div_eq_sub_div h0 h]
      have h2 : t % k = (t - k) % k := by rw [Nat.mod_eq_sub_mod h]
      rw [h1, h2]
      simp
theorem flatK_list (hk : ∀ x, (enc x).length = k) (h0 : 0 < k) (d : Array α) : (flatK enc k d).toList = d.toList.flatMap enc := by
  apply List.ext_getElem?
  intro t
  rw [flatMap_at enc k hk h0]
  by_cases ht : t < d.size * k
  · have h1 : t / k < d.size := Nat.div_lt_of_lt_mul (by rw [Nat.mul_comm]; exact ht)
    rw [Array.getElem?_toList, Array.getElem?_eq_getElem (by rw [size_flatK]; exact ht)]
    have h2 := get_flatK enc k d t ht
    rw [getElem!_pos (flatK enc k d) t (by rw [size_flatK]; exact ht)] at h2
    rw [h2, Array.getElem?_toList, Array.getElem?_eq_getElem h1, getElem!_pos d (t / k) h1, Option.bind_some]
    have h3 : t % k < (enc d[t / k]).length := by rw [hk]; exact Nat.mod_lt _ h0
    rw [getElem!_pos (enc d[t / k]) (t % k) h3, List.getElem?_eq_getElem h3]
  · have h1 : d.size ≤ t / k := (Nat.le_div_iff_mul_le h0).2 (by omega)
    rw [List.getElem?_eq_none (by rw [Array.length_toList, size_flatK]; omega), List.getElem?_eq_none (l := d.toList) (by rw [Array.length_toList]; exact h1)]
    rfl
theorem holds_row (hk : ∀ x, (enc x).length = k) (h0 : 0 < k) {w : World} {g : Nat} {cur : Array Value} {e : TypeId} {d : Array α} (hb : w.heap[g]? = some (.cells cur e (0, 0))) (ht : cur.toList.take (d.size * k) = d.toList.flatMap enc) : HoldsK enc k w g 0 d := by
  intro j hj
  have hj' : j < d.size * k := by simpa using hj
  refine ⟨?_, by simp [World.frozen?, hb]⟩
  have h1 : (cur.toList.take (d.size * k))[j]? = (flatK enc k d).toList[j]? := by rw [ht, flatK_list hk h0]
  rw [List.getElem?_take_of_lt hj', Array.getElem?_toList (xs := flatK enc k d), Array.getElem?_eq_getElem hj] at h1
  simp only [World.cell?, hb, Nat.zero_add]
  simp only [Option.isSome_none, Bool.false_eq_true, if_false]
  rw [← Array.getElem?_toList, h1, getElem!_pos _ j hj]
  rfl
theorem put_take (cur : Array Value) (d : Array Value) (h : d.size ≤ cur.size) : (putCells id 0 d cur).toList = d.toList ++ cur.toList.drop d.size := by
  apply List.ext_getElem?
  intro j
  by_cases hj : j < d.size
  · rw [List.getElem?_append_left (by simpa using hj), Array.getElem?_toList, Array.getElem?_toList]
    simp [putCells, hj, show j < cur.size by omega]
  · rw [List.getElem?_append_right (by simp; omega), List.getElem?_drop, Array.getElem?_toList, Array.getElem?_toList]
    have : d.size + (j - d.toList.length) = j := by simp; omega
    rw [this]
    by_cases hc : j < cur.size
    · simp [putCells, hj, hc]
    · simp [putCells, hc]
end flat
/-! ### The contract -/
/-- The elements of a row, sorted by what they say: they differ by the order. -/
noncomputable def sortC (ls : List Leaf) (c : LT ls → LT ls → Int) (okb : LT ls → Bool) (s : SV) (h : H) : Option (Unit × H) :=
  if s.len = 0 then some ((), h) else
  match s.a with
  | .hp id g 0 =>
    (h.rds s.a (s.len * ls.length)).bind fun cs => (mapO (fun x => (rdLT true (h.put id .dead) ls x).bind fun y => some (y, x)) (chunks ls.length s.len cs)).bind fun ps =>
      guardO (s.len ≤ 2 ^ 20 ∧ ps.all (fun p => okb p.1) = true ∧ ps.Pairwise fun p q => c p.1 q.1 ≠ 0)
        ((h.wrs s.a ((sortB (fun p q => c p.1 q.1) ps).flatMap (·.2))).bind fun h' => some ((), h'))
  | _ => none
/-- .. by a function of the program's own. -/
noncomputable def sortX (g : FuncId) (ls : List Leaf) (c : LT ls → LT ls → Int) (okb : LT ls → Bool) (s : SV) (f : V) (h : H) : Option (Unit × H) :=
  match f with
  | .func g' [] => if g' = g then sortC ls c okb s h else none
  | _ => none
theorem insB_map {α β : Type} (f : α → β) (c : β → β → Int) (x : α) : ∀ (l : List α), insB c (f x) (l.map f) = (insB (fun a b => c (f a) (f b)) x l).map f
  | [] => rfl
  | y :: l => by
    simp only [List.map_cons, insB]
    split <;> simp [insB_map f c x l]
theorem sortB_map {α β : Type} (f : α → β) (c : β → β → Int) : ∀ (l : List α), sortB c (l.map f) = (sortB (fun a b => c (f a) (f b)) l).map f
  | [] => rfl
  | x :: l => by
    show insB c (f x) (sortB c (l.map f)) = _
    rw [sortB_map f c l, insB_map]
    rfl
/-- A block of the call's own is struck: another that differs there alone. -/
theorem Rel.strike {base : Nat} {ρ : Ren} {h : H} {w w' : World} (hr : Rel base ρ h w) {id b x : Nat} {cs : List V} {e : Nat} (hm : h.m id = .own cs e) (hb : ρ.map id cs.length = some (b, x))
    (hoth : ∀ k, k < w.heap.size → k ≠ b → w'.heap[k]? = w.heap[k]?) (hsz : w.heap.size ≤ w'.heap.size) : Rel base ρ (h.put id .dead) w' := by
  have hsame : (h.put id .dead).m id = .dead := by simp [H.put]
  have hother : ∀ i, i ≠ id → (h.put id .dead).m i = h.m i := fun i hi => by
    have : Nat.beq i id = false := beq_ne hi
    simp [H.put, this]
  obtain ⟨b0, x0, c0, t0, k1, k2, k3, k4, k5⟩ := hr.own id cs e hm
  rw [hb] at k1; cases k1
  have hk : ∀ (k : Nat) (o : Obj), w.heap[k]? = some o → k ≠ b → w'.heap[k]? = some o := fun k o e hn => by
    rw [hoth k (Array.getElem?_eq_some_iff.1 e).1 hn]; exact e
  have nd : ∀ i cs1 e1, (h.put id .dead).m i = .own cs1 e1 → i ≠ id ∧ h.m i = .own cs1 e1 := fun i cs1 e1 hi => by
    by_cases hii : i = id
    · subst hii; rw [hsame] at hi; cases hi
    · exact ⟨hii, by rw [← hother i hii]; exact hi⟩
  refine ⟨fun p hp => ?_, Nat.le_trans hr.hb hsz, fun i g y hy => ?_, fun i cs1 e1 hi => ?_, fun i g y cs1 e1 hy hi => hr.gens i g y cs1 e1 hy (nd i cs1 e1 hi).2, fun i hi => ?_, fun i i' c1 c2 e1 e2 b1 y b' y' hne h1 h2 => hr.sep i i' c1 c2 e1 e2 b1 y b' y' hne (nd i c1 e1 h1).2 (nd i' c2 e2 h2).2, fun f b1 i us hf => ?_, hr.fznew, fun f b1 i us id' cs1 e1 y hf hi => hr.fzsep f b1 i us id' cs1 e1 y hf (nd id' cs1 e1 hi).2,
    hr.objs.keep (Ren.le.refl _) (fun i s hi hs => ?_) (fun _ h => h) (fun _ _ h => h) (fun k o e hn => hk k o e (fun he => by subst he; rw [k3] at e; cases e; exact hn _ _ _ rfl)) hsz⟩
  · obtain ⟨h1, t, fr, h2⟩ := hr.gl p hp
    exact ⟨h1, t, fr, hk _ _ h2 (by omega)⟩
  · by_cases hi : i = id
    · subst hi; rw [hsame]; simp
    · rw [hother i hi]; exact hr.used i g y hy
  · obtain ⟨h1, h2⟩ := nd i cs1 e1 hi
    obtain ⟨b1, y, c1, t1, j1, j2, j3, j4, j5⟩ := hr.own i cs1 e1 h2
    exact ⟨b1, y, c1, t1, j1, j2, hk _ _ j3 (hr.sep i id cs1 cs e1 e b1 y b x h1 h2 hm j1 hb), j4, j5⟩
  · have hi' : h.next ≤ i := hi
    by_cases hii : i = id
    · subst hii; rw [hr.top i hi'] at hm; cases hm
    · rw [hother i hii]; exact hr.top i hi'
  · obtain ⟨c1, t1, fr, h1, h2⟩ := hr.fzok f b1 i us hf
    exact ⟨c1, t1, fr, hk _ _ h1 (fun he => hr.fzsep f b1 i us id cs e x hf hm (he ▸ hb)), h2⟩
  · by_cases hii : i = id
    · subst hii; rw [hsame] at hi; subst hi; cases hs
    · rw [← hother i hii]; exact hi
/-- What stands below a world's whole heap: draws and blocks more. -/
theorem Below.grown {w w' : World} (h : Below w.heap.size w w') : ∃ q os', w' = Sort.grow (w.drewN q) os' := by
  obtain ⟨⟨h1, h2, h3, h4, h5⟩, h6⟩ := h
  refine ⟨w'.drawn - w.drawn, w'.heap.extract w.heap.size w'.heap.size, ?_⟩
  have hh : w'.heap = w.heap ++ w'.heap.extract w.heap.size w'.heap.size := by
    apply Array.ext_getElem?
    intro i
    by_cases hi : i < w.heap.size
    · rw [h5 i hi, Array.getElem?_append_left hi]
    · rw [Array.getElem?_append_right (by omega), Array.getElem?_extract]
      by_cases h7 : i < w'.heap.size
      · rw [if_pos (by omega)]; congr 1; omega
      · rw [if_neg (by omega), Array.getElem?_eq_none (by omega)]
  cases w' with
  | mk => 
    simp only [Sort.grow, World.drewN] at *
    subst h1 h2 h3
    congr 1
    omega
/-- An element: what it says, what the evaluator has for it, its cells. -/
structure Elt (ρ : Ren) (hd : H) (ls : List Leaf) (okb : LT ls → Bool) where
  y : LT ls
  cx : List V
  us : List Value
  len : us.length = ls.length
  rc : RC ρ cx us
  rd : rdLT true hd ls cx = some y
  ok : okb y = true
section
variable {P : Program} {ls : List Leaf} {c : LT ls → LT ls → Int} {okb : LT ls → Bool} {g : FuncId} {gP : TT [.agg ls, .agg ls] → Option Int}
theorem elt_cmp (eg : ∀ args w, (callFunc g args).run P w = .ok (.enter g args) w) (hok : EntryOK P g (mkP [.agg ls, .agg ls] (.one (.leaf (.int .i64))) gP)) (hplain : LT.plain ls = true)
    (hg : ∀ x y, okb x = true → okb y = true → gP (x, y) = some (c x y)) {base : Nat} {ρ : Ren} {hd : H} {w : World} (hr : Rel base ρ hd w) (X Y : Elt ρ hd ls okb) :
    Calls P g #[.agg X.us.toArray, .agg Y.us.toArray] w fun e w' => e = .returned (.int .i64 (c X.y Y.y)) ∧ ∃ q os', w' = Sort.grow (w.drewN q) os' := by
  have rX := rdLT_ok (lp := true) hr ls X.cx X.y X.us X.rd X.rc
  have rY := rdLT_ok (lp := true) hr ls Y.cx Y.y Y.us Y.rd Y.rc
  have hcall := ((hok [.agg (LT.lo false ls X.y), .agg (LT.lo false ls Y.y)] H.empty).2 (.int .i64 (c X.y Y.y)) H.empty (by
    simp only [mkP, rdTTK_eq, rdTT, rdTy, rdLT_lo (lp := true) (f := false) rfl ls _ hplain, Option.bind_some]
    rw [hg _ _ X.ok Y.ok]
    rfl)).2
  rcases hcall w.heap.size _ w [.agg X.us.toArray, .agg Y.us.toArray] hr.rows ⟨_, _, rfl, ⟨_, rfl, rX⟩, _, _, rfl, ⟨_, rfl, rY⟩, rfl⟩ with ⟨_, h⟩ | ⟨val, w', h1, _⟩
  · refine Calls.mono h fun e w' hret => ?_
    obtain ⟨ρ', val, _, _, hb, rfl, hv⟩ := hret
    simp only [R] at hv
    subst hv
    exact ⟨rfl, hb.grown⟩
  · have e1 := eg ([.agg X.us.toArray, .agg Y.us.toArray] : List Value).toArray w
    rw [e1] at h1
    cases h1
/-- The elements of a row of cells. -/
theorem elts_of {ρ : Ren} {hd : H} {k : Nat} (hk : ls.length = k) (h0 : 0 < k) : ∀ (n : Nat) (cs : List V) (us : List Value) (ps : List (LT ls × List V)), RC ρ cs us → cs.length = n * k → mapO (fun x => (rdLT true hd ls x).bind fun y => some (y, x)) (chunks k n cs) = some ps →
    (∀ p ∈ ps, okb p.1 = true) → ∃ es : List (Elt ρ hd ls okb), es.map (fun e => (e.y, e.cx)) = ps ∧ es.flatMap (·.us) = us ∧ es.length = n
  | 0, cs, us, ps, hrc, hl, hm, _ => by
    simp only [chunks, mapO, Option.some.injEq] at hm
    subst hm
    have : us = [] := List.eq_nil_of_length_eq_zero (by rw [← hrc.length, hl]; omega)
    exact ⟨[], rfl, this.symm, rfl⟩
  | n + 1, cs, us, ps, hrc, hl, hm, hall => by
    simp only [chunks, mapO, Option.bind_eq_some_iff, Option.some.injEq] at hm
    obtain ⟨p, ⟨y, hy, rfl⟩, qs, hq, rfl⟩ := hm
    have hlen : (cs.take k).length = k := by rw [List.length_take, hl, Nat.add_mul]; omega
    obtain ⟨es, h1, h2, h3⟩ := elts_of hk h0 n (cs.drop k) (us.drop k) qs (hrc.drop k) (by rw [List.length_drop, hl, Nat.add_mul]; omega) hq fun p hp => hall p (by simp [hp])
    refine ⟨⟨y, cs.take k, us.take k, by rw [← (hrc.take k).length, hlen, hk], hrc.take k, hy, hall (y, cs.take k) (by simp)⟩ :: es, by rw [List.map_cons, h1], ?_, by rw [List.length_cons, h3]⟩
    rw [List.flatMap_cons, h2, List.take_append_drop]
theorem rds_own {h : H} {id gen : Nat} {n : Nat} {cs : List V} (h1 : h.rds (.hp id gen 0) n = some cs) : ∃ cs0 e, h.m id = .own cs0 e ∧ cs0.length = gen ∧ n ≤ cs0.length ∧ n ≠ 0 ∧ cs = cs0.take n := by
  simp only [H.rds, H.from, Option.bind_eq_some_iff] at h1
  obtain ⟨c1, h1, h2⟩ := h1
  split at h1
  · rename_i cs0 e hm
    split at h1
    · rename_i hg
      simp only [Option.some.injEq, List.drop_zero] at h1
      subst h1
      split at h2
      · rename_i hn
        simp only [Option.some.injEq] at h2
        exact ⟨cs0, e, hm, hg, hn.1, hn.2, h2.symm⟩
      · cases h2
    · cases h1
  · cases h1
theorem RC_flat {ρ : Ren} {hd : H} : ∀ (es : List (Elt ρ hd ls okb)), RC ρ (es.flatMap (·.cx)) (es.flatMap (·.us))
  | [] => RC_nil
  | e :: es => by rw [List.flatMap_cons, List.flatMap_cons]; exact e.rc.append (RC_flat es)
variable {ρS : Go.Shelf.Ren}
theorem sortX_ok (L : SlLaysF0.n6 P ρS) (aE : ∀ w, (isAgg (ρS.t 24)).run P w = .ok true w) (zE : ∀ w, (Go.sizeOf (ρS.t 24)).run P w = .ok ls.length w) (hpos : 0 < ls.length) (hplain : LT.plain ls = true) (o : Ord3 c)
    (eS : ∀ args w, (callFunc (ρS.f 6) args).run P w = .ok (.enter (ρS.f 6) args) w)
    (eg : ∀ args w, (callFunc g args).run P w = .ok (.enter g args) w) (hok : EntryOK P g (mkP [.agg ls, .agg ls] (.one (.leaf (.int .i64))) gP)) (hg : ∀ x y, okb x = true → okb y = true → gP (x, y) = some (c x y)) :
    EntryOK P (ρS.f 6) (mkX [.leaf .slice, .leaf .dyn] (.many []) fun x h => sortX g ls c okb x.1 x.2 h) := by
  refine mkX_of fun x h r h' hx base ρ w us hrel hrl => .inl ⟨eS _ _, ?_⟩
  obtain ⟨s, f⟩ := x
  obtain ⟨sa, sl, sc, st⟩ := s
  simp only [sortX] at hx
  split at hx
  case h_2 => cases hx
  rename_i g'
  split at hx
  case isFalse => cases hx
  rename_i hgg
  subst hgg
  obtain ⟨u0, us1, rfl, hu0, u1, us2, rfl, hu1, hnil⟩ := hrl
  have hnil' : us2 = [] := hnil
  subst hnil'
  obtain ⟨p, c', rfl, q1, q2, q3, q4, q5, q6, q7⟩ := hu0
  obtain ⟨ucs, rfl, hucs⟩ := hu1
  have hucs' : ucs = [] := hucs
  subst hucs'
  simp only [sortC] at hx
  split at hx
  · rename_i h0
    have h0' : sl = 0 := h0
    subst h0'
    simp only [Option.some.injEq, Prod.mk.injEq, true_and] at hx
    subst hx
    refine Calls.mono (AnyF.slices_SortFunc_none L p c' _ w) fun e w' he => ?_
    obtain ⟨rfl, rfl⟩ := he
    exact ⟨ρ, _, Ren.le.refl _, hrel, Below.refl _ _, rfl, ⟨[], rfl, rfl⟩⟩
  · rename_i hn0
    have hn0' : sl ≠ 0 := hn0
    split at hx
    case h_2 => cases hx
    rename_i _ ix gen
    simp only [Option.bind_eq_some_iff] at hx
    obtain ⟨cs, hcs, ps, hps, hx⟩ := hx
    unfold guardO at hx
    split at hx
    case isFalse => cases hx
    rename_i hguard
    obtain ⟨hle20, hall, hpw⟩ := hguard
    simp only [Option.bind_eq_some_iff, Option.some.injEq, Prod.mk.injEq, true_and] at hx
    obtain ⟨h2, hwr, rfl⟩ := hx
    obtain ⟨cs0, e, hm, rfl, hn1, hn2, rfl⟩ := rds_own hcs
    have hn1 : sl * ls.length ≤ cs0.length := hn1
    obtain ⟨b, x, cur, t, k1, k2, k3, k4, k5⟩ := hrel.own ix cs0 e hm
    have q1' : sl ≤ sc := q1
    obtain ⟨b', x', k1', hp⟩ := q6 (show sc ≠ 0 by omega)
    rw [k1] at k1'; cases k1'
    cases hp
    have hlen : cur.toList.length = cur.size := Array.length_toList
    have hrc0 : RC ρ (cs0.take (sl * ls.length)) (cur.toList.take (sl * ls.length)) := by
      have := k5.take (sl * ls.length)
      rwa [List.take_take, Nat.min_eq_left hn1] at this
    obtain ⟨es, hes1, hes2, hes3⟩ := elts_of (ρ := ρ) (hd := h.put ix .dead) (okb := okb) rfl hpos sl _ _ ps hrc0 (by rw [List.length_take]; omega) hps fun p hp => List.all_eq_true.1 hall p hp
    haveI : Inhabited (Elt ρ (h.put ix .dead) ls okb) := ⟨es[0]'(by omega)⟩
    have hblk : b < w.heap.size := (Array.getElem?_eq_some_iff.1 k3).1
    have hsz : es.toArray.size = sl := by simp [hes3]
    have hH : HoldsK (·.us) ls.length w b 0 es.toArray := holds_row (fun e => e.len) hpos k3 (by rw [hsz]; exact hes2.symm)
    have hstr : ∀ (m : Nat) (os : Array Obj) (dk : Array (Elt ρ (h.put ix .dead) ls okb)), Rel base ρ (h.put ix .dead) (sortWorldK (·.us) ls.length w b 0 m dk os) := fun m os dk => by
      refine hrel.strike hm k1 (fun k hk hkb => ?_) (by simp [sortWorldK, Sort.grow, putRowK, putRow, mapBlock])
      have : (sortWorldK (·.us) ls.length w b 0 m dk os).heap = w.heap.modify b (onCells (putCells id 0 (flatK (·.us) ls.length dk))) ++ os := rfl
      rw [this, Array.getElem?_append_left (by simpa using hk), Array.getElem?_modify, if_neg (Ne.symm hkb)]
    have hcmp : CmpLays P g' #[] (·.us) ls.length (fun X Y : Elt ρ (h.put ix .dead) ls okb => c X.y Y.y) b 0 es.toArray.size w := fun m os dk _ X Y => elt_cmp eg hok hplain hg (hstr m os dk) X Y
    have oE : Ord3 (fun X Y : Elt ρ (h.put ix .dead) ls okb => c X.y Y.y) := ⟨fun X => o.refl _, fun X Y => o.anti _ _, fun X Y Z => o.trans _ _ _, fun X Y Z => o.eq _ _ _, fun X Y Z => o.eq2 _ _ _⟩
    have hrun := AnyQ.slices_SortFunc L ls.length aE zE (fun X : Elt ρ (h.put ix .dead) ls okb => X.us) (fun X => X.len) (fun X v hv => X.rc.ones v hv) (fun X Y => c X.y Y.y) oE.swo g' #[] b 0 c' es.toArray w eg hcmp hH hblk (by rw [hsz]; exact Nat.lt_of_le_of_lt hle20 (by decide))
    rw [hsz] at hrun
    refine Calls.mono hrun fun en w' hw' => ?_
    obtain ⟨rfl, d', n, os, hperm, hsort, rfl⟩ := hw'
    obtain ⟨p1, p2, p3⟩ := hperm
    have hd' : d'.size = sl := by rw [p1, hsz]
    have p3' : d'.toList.Perm es := by
      rw [Array.extract_eq_self_of_le (by omega), Array.extract_eq_self_of_le (by omega)] at p3
      exact p3
    have hpw' : es.Pairwise (fun X Y => c X.y Y.y ≠ 0) := by
      rw [← hes1, List.pairwise_map] at hpw
      exact hpw
    have hsym : ∀ {X Y : Elt ρ (h.put ix .dead) ls okb}, c X.y Y.y ≠ 0 → c Y.y X.y ≠ 0 := fun hxy hyx => hxy (o.zero hyx)
    have hpd : d'.toList.Pairwise (fun X Y => c X.y Y.y ≠ 0) := (p3'.pairwise_iff hsym).2 hpw'
    have hsd : d'.toList.Pairwise (fun X Y => c X.y Y.y < 0) := by
      rw [List.pairwise_iff_getElem] at hpd ⊢
      intro i j hi hj hij
      have h1 := hpd i j hi hj hij
      simp only [Array.length_toList] at hi hj
      have h2 := hsort i j (Nat.zero_le _) hij (by omega)
      rw [getElem!_pos d' i hi, getElem!_pos d' j hj] at h2
      simp only [ltOf, decide_eq_false_iff_not] at h2
      simp only [Array.getElem_toList] at h1 ⊢
      have h3 := o.anti d'[i].y d'[j].y
      have h4 := o.anti d'[j].y d'[i].y
      omega
    have heq : d'.toList = sortB (fun X Y : Elt ρ (h.put ix .dead) ls okb => c X.y Y.y) es := sorted_unique oE (p3'.trans sortB_perm.symm) hsd (sortB_sorted oE hpw')
    have hflat : (sortB (fun p q : LT ls × List V => c p.1 q.1) ps).flatMap (·.2) = d'.toList.flatMap (·.cx) := by
      rw [← hes1, sortB_map (fun e : Elt ρ (h.put ix .dead) ls okb => (e.y, e.cx)) (fun p q : LT ls × List V => c p.1 q.1) es, ← heq, List.flatMap_map]
    rw [hflat] at hwr
    have hlen2 : (d'.toList.flatMap (·.cx)).length = sl * ls.length := by
      rw [(RC_flat d'.toList).length, ← flatK_list (fun e : Elt ρ (h.put ix .dead) ls okb => e.len) hpos, Array.length_toList, size_flatK, hd']
    have hfl : (flatK (fun e : Elt ρ (h.put ix .dead) ls okb => e.us) ls.length d').toList = d'.toList.flatMap (·.us) := flatK_list (fun e => e.len) hpos d'
    have hput := put_take cur (flatK (fun e : Elt ρ (h.put ix .dead) ls okb => e.us) ls.length d') (by rw [size_flatK, hd']; omega)
    simp only [H.wrs, hm] at hwr
    rw [if_pos ⟨trivial, by rw [hlen2]; omega⟩] at hwr
    simp only [Option.some.injEq] at hwr
    subst hwr
    have hcs' : splice cs0 0 (d'.toList.flatMap (·.cx)) = d'.toList.flatMap (·.cx) ++ cs0.drop (sl * ls.length) := by
      simp [splice, hlen2]
    have hw1 : sortWorldK (fun e : Elt ρ (h.put ix .dead) ls okb => e.us) ls.length w b 0 n d' os = Sort.grow (Sort.ahead (w.setRow b (putCells id 0 (flatK (·.us) ls.length d') cur)) n) os := by
      have hmod : w.heap.modify b (onCells (putCells id 0 (flatK (fun e : Elt ρ (h.put ix .dead) ls okb => e.us) ls.length d'))) = (w.setRow b (putCells id 0 (flatK (·.us) ls.length d') cur)).heap := by
        apply Array.ext_getElem?
        intro i
        by_cases hi : b = i
        · subst hi
          rw [setRow_heap w b cur _ t (0, 0) k3, Array.getElem?_modify, if_pos rfl, k3]
          rfl
        · rw [setRow_other w b i _ (Ne.symm hi), Array.getElem?_modify, if_neg hi]
      simp only [sortWorldK, Sort.grow, putRowK, putRow, mapBlock, Sort.ahead]
      rw [hmod]
      rfl
    obtain ⟨hrel2, hbel2⟩ := hrel.write (cs' := splice cs0 0 (d'.toList.flatMap (·.cx))) (c' := putCells id 0 (flatK (·.us) ls.length d') cur) hm k1 k3 (splice_length _ _ _ (by rw [hlen2]; omega)) (by simp [putCells]) (by
      rw [splice_length _ _ _ (by rw [hlen2]; omega), hput, hfl, hcs']
      have hl3 : (d'.toList.flatMap (·.us)).length = sl * ls.length := by rw [← (RC_flat d'.toList).length, hlen2]
      rw [size_flatK, hd', List.take_append, List.take_of_length_le (by omega), hl3, ← List.drop_take]
      exact (RC_flat d'.toList).append (k5.drop _))
    have hb3 : Below (w.setRow b (putCells id 0 (flatK (fun e : Elt ρ (h.put ix .dead) ls okb => e.us) ls.length d') cur)).heap.size (w.setRow b (putCells id 0 (flatK (·.us) ls.length d') cur)) (Sort.grow (Sort.ahead (w.setRow b (putCells id 0 (flatK (·.us) ls.length d') cur)) n) os) :=
      ⟨⟨rfl, rfl, rfl, by simp [Sort.grow, Sort.ahead], fun k hk => by simp [Sort.grow, Sort.ahead, Array.getElem?_append_left hk]⟩, by simp [Sort.grow, Sort.ahead]⟩
    rw [hw1]
    exact ⟨ρ, _, Ren.le.refl _, hrel2.ext hb3, hbel2.trans (hb3.mono hrel2.hb), rfl, ⟨[], rfl, rfl⟩⟩
end
end Go.Proofs.YtjkjcnadgpndoaaGreat.Ev
