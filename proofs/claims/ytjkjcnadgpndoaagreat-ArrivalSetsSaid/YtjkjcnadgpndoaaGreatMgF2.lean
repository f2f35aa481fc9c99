/- What the functions of this seat compute, and the evaluator: some texts in one. Conditions: those of each law. -/
import Derived.Test.YtjkjcnadgpndoaaGreatProg
import Derived.Test.YtjkjcnadgpndoaaGreatEvSpec
import Derived.Test.YtjkjcnadgpndoaaGreatMgF1
namespace Go.Proofs.YtjkjcnadgpndoaaGreat
open Go Go.Proofs.YtjkjcnadgpndoaaGreat.Ev
set_option linter.unusedVariables false
set_option linter.unusedSimpArgs false
set_option maxRecDepth 100000
set_option maxHeartbeats 4000000
def idxT (f : Bool) (p : Fct → Bool) (xs : List Fct) : List Slot :=
  match xs.findIdx? p with
  | some m => (xs.take (m + 1)).map (cFt f)
  | none => xs.map (cFt f)
theorem IndexF_grow {T : Table} {v : V} {B : List Slot} {xs : List Fct} {s : SV} {f : Bool} (p : Fct → Bool) (hlen : s.len = xs.length) (hn : xs.length < 2 ^ 63)
    (hrd : ∀ i x, xs[i]? = some x → ∀ J, rdT (.agg FS) (hL (B ++ J)) (V.add s.a (i * 6)) = some (low f x))
    (hc : ∀ x ∈ xs, ∀ (J : List Slot) {R : Type} (k : V → H → Option R), callV T.dy v [argF f x] (hL (B ++ J)) k = k (.bool (p x)) (hL (B ++ (J ++ [cFt f x])))) :
    slices_IndexFunc_F2 T s v (hL B) = some (idxOf p xs, hL (B ++ idxT f p xs)) := by
  have hstep : ∀ (i : Nat) (x : Fct), xs[i]? = some x → slices_IndexFunc_F2.loop1 T s v ((i : Int), hL (B ++ (xs.take i).map (cFt f))) = some (bif p x then .done (.ret (i : Int), hL (B ++ (xs.take (i + 1)).map (cFt f))) else .more (((i + 1 : Nat) : Int), hL (B ++ (xs.take (i + 1)).map (cFt f)))) := fun i x hx => by
    obtain ⟨hlt, hx'⟩ := List.getElem?_eq_some_iff.1 hx
    have ht : (xs.take (i + 1)).map (cFt f) = (xs.take i).map (cFt f) ++ [cFt f x] := by
      rw [← List.take_append_getElem hlt, List.map_append, hx']
      rfl
    unfold slices_IndexFunc_F2.loop1
    try simp -implicitDefEqProofs only [hlen, Int.toNat_natCast]
    rw [decide_eq_true (by omega), cond_true, guardO_pos (by omega), hrd i x hx]
    try simp -implicitDefEqProofs only [Option.bind_some, low, rowSV_len, rowSV_cap, rowSV_tail]
    rw [hc x (by rw [← hx']; exact List.getElem_mem hlt), ← ht]
    try simp -implicitDefEqProofs only [Res.pack, Ty.pack, Leaf.pack, Option.bind_some]
    rw [i64_succ (by omega)]
    cases p x <;> rfl
  unfold slices_IndexFunc_F2 idxOf idxT
  cases hf : xs.findIdx? p with
  | some m =>
    obtain ⟨hm, hbad, hgood⟩ := List.findIdx?_eq_some_iff_getElem.1 hf
    have := iter_run (f := slices_IndexFunc_F2.loop1 T s v) (x := (.ret (m : Int), hL (B ++ (xs.take (m + 1)).map (cFt f)))) (fun i => ((i : Int), hL (B ++ (xs.take i).map (cFt f)))) m FUEL (fun i hi => by
      rw [hstep i _ (List.getElem?_eq_getElem (by omega))]
      have := hgood i hi
      cases hpi : p xs[i] with
      | true => exact absurd hpi this
      | false => rfl) (by
      rw [hstep m _ (List.getElem?_eq_getElem hm), hbad]
      rfl) (fuel_gt (by omega))
    have hz : (((0 : Nat) : Int)) = 0 := rfl
    simp only [hz, List.take_zero, List.map_nil, List.append_nil] at this
    rw [this]
    rfl
  | none =>
    have hno := List.findIdx?_eq_none_iff.1 hf
    have := iter_run (f := slices_IndexFunc_F2.loop1 T s v) (x := (.ex0 (), hL (B ++ xs.map (cFt f)))) (fun i => ((i : Int), hL (B ++ (xs.take i).map (cFt f)))) xs.length FUEL (fun i hi => by
      rw [hstep i _ (List.getElem?_eq_getElem hi), hno _ (List.getElem_mem hi)]
      rfl) (by
      unfold slices_IndexFunc_F2.loop1
      try simp -implicitDefEqProofs only [hlen]
      rw [decide_eq_false (by omega), cond_false, List.take_length]) (fuel_gt (by omega))
    have hz : (((0 : Nat) : Int)) = 0 := rfl
    simp only [hz, List.take_zero, List.map_nil, List.append_nil] at this
    rw [this]
    rfl
theorem ContainsF_grow {T : Table} {v : V} {B : List Slot} {xs : List Fct} {s : SV} {f : Bool} (p : Fct → Bool) (hlen : s.len = xs.length) (hn : xs.length < 2 ^ 63)
    (hrd : ∀ i x, xs[i]? = some x → ∀ J, rdT (.agg FS) (hL (B ++ J)) (V.add s.a (i * 6)) = some (low f x))
    (hc : ∀ x ∈ xs, ∀ (J : List Slot) {R : Type} (k : V → H → Option R), callV T.dy v [argF f x] (hL (B ++ J)) k = k (.bool (p x)) (hL (B ++ (J ++ [cFt f x])))) :
    ∃ J, slices_ContainsFunc_F2 T s v (hL B) = some (xs.any p, hL (B ++ J)) := by
  have hJ := IndexF_grow (T := slices_ContainsFunc_F2.tb T) p hlen hn hrd hc
  refine ⟨idxT f p xs, ?_⟩
  unfold slices_ContainsFunc_F2
  rw [hJ]
  simp only [Option.bind_some, idxOf_nonneg]
theorem rd_at {L : List Slot} {id e N k : Nat} {ys : List Fct} {x : Fct} (hs : L[id]? = some (.own (cellsL FC ys) e)) (hn : ys.length = N) (hk : ys[k]? = some x) : rdT (.agg FS) (hL L) (V.add (.hp id (N * 6) 0) (k * 6)) = some (low true x) := by
  have h1 : V.add (.hp id (N * 6) 0) (k * 6) = .hp id (N * 6) (k * 6) := by simp [V.add]
  rw [h1, rds_ownL (ls := FC) (ms := FS) (xs := ys) (e := e) (w := 6) hs (by rw [hn]; rfl) rfl rfl (by omega), hk]
  rfl
theorem wr_at {L : List Slot} {id e N k : Nat} {ys : List Fct} {x : Fct} (hs : L[id]? = some (.own (cellsL FC ys) e)) (hn : ys.length = N) (hk : k < N) : H.wrs (hL L) (V.add (.hp id (N * 6) 0) (k * 6)) [.int .i64 x.1, .int .i64 x.2.1, .int .i64 x.2.2.1, .int .i64 x.2.2.2.1, .slice (rowSV true j1 x.2.2.2.2.1).a x.2.2.2.2.1.length x.2.2.2.2.1.length true, .slice (rowSV true t1 x.2.2.2.2.2).a x.2.2.2.2.2.length x.2.2.2.2.2.length true] = some (hL (L.set id (.own (cellsL FC (ys.set k x)) e))) := by
  have h1 : V.add (.hp id (N * 6) 0) (k * 6) = .hp id (N * 6) (k * 6) := by simp [V.add]
  rw [h1]
  exact wrs_ownL (ls := FC) (xs := ys) (w := 6) (x := x) hs (by rw [hn]; rfl) rfl (by omega) rfl
def trail (p : Fct → Bool) (xs : List Fct) : List Slot :=
  match xs.findIdx? p with
  | none => xs.map (cFt true)
  | some m => (xs.take (m + 1)).map (cFt true) ++ (xs.drop (m + 1)).flatMap fun x => [cFt true x, cFt true x]
abbrev keepF (p : Fct → Bool) (xs : List Fct) : List Fct := xs.filter fun x => !p x
abbrev zeros (n : Nat) : List V := repeatCells [.int .i64 0, .int .i64 0, .int .i64 0, .int .i64 0, .slice .nil 0 0 false, .slice .nil 0 0 false] n
theorem zeros_len (n : Nat) : (zeros n).length = n * 6 := by
  induction n with
  | zero => rfl
  | succ n ih => unfold zeros at *; simp only [repeatCells, List.length_append, ih]; simp; omega
theorem Delete_at {T : Table} {v : V} {sl : List Slot} {id n : Nat} {xs : List Fct} (p : Fct → Bool) (h0 : sl[id]? = some (.own (cellsL FC xs) 6)) (hn : xs.length = n) (hl : n ≤ 2 ^ 20)
    (hc : ∀ x ∈ xs, ∀ (sl' : List Slot), (∀ j, j ≠ id → j < sl.length → sl'[j]? = sl[j]?) → ∀ {R : Type} (k : V → H → Option R), callV T.dy v [argF true x] (hL sl') k = k (.bool (p x)) (hL (sl' ++ [cFt true x]))) :
    slices_DeleteFunc_F2 T (ownSV id FC n) v (hL sl) = some (⟨.hp id (n * 6) 0, (keepF p xs).length, n, true⟩, hL (sl.set id (.own (cellsL FC (keepF p xs) ++ zeros (n - (keepF p xs).length)) 6) ++ trail p xs)) := by
  have hid := (List.getElem?_eq_some_iff.1 h0).1
  have a1 : (ownSV id FC n).a = .hp id (n * 6) 0 := rfl
  have a2 : (ownSV id FC n).len = n := rfl
  have a3 : (ownSV id FC n).cap = n := rfl
  have a4 : (ownSV id FC n).tail = true := rfl
  have IX := IndexF_grow (T := slices_DeleteFunc_F2.tb T) (v := v) (B := sl) (xs := xs) (s := ownSV id FC n) (f := true) p (by rw [a2, hn]) (by omega)
    (fun i x hx J => by rw [a1]; exact rd_at (by rw [List.getElem?_append_left hid, h0]) hn hx)
    (fun x hx J R k => by
      have := @hc x hx (sl ++ J) (fun j _ hj => List.getElem?_append_left hj) R k
      rw [List.append_assoc] at this
      exact this)
  unfold slices_DeleteFunc_F2 trail
  rw [IX, Option.bind_some]
  unfold idxOf idxT
  cases hf : xs.findIdx? p with
  | none =>
    have hno := List.findIdx?_eq_none_iff.1 hf
    have hk : keepF p xs = xs := List.filter_eq_self.2 fun x hx => by rw [hno x hx]; rfl
    simp only
    rw [decide_true, cond_true, hk, hn, Nat.sub_self]
    have : sl.set id (.own (cellsL FC xs ++ zeros 0) 6) = sl := by
      rw [show zeros 0 = [] from rfl, List.append_nil]
      apply List.ext_getElem?
      intro j
      by_cases hj : j = id
      · subst hj; rw [List.getElem?_set_self hid, h0]
      · rw [List.getElem?_set_ne (by omega)]
    rw [this]
    rfl
  | some m =>
    obtain ⟨hm, hbad, hgood⟩ := List.findIdx?_eq_some_iff_getElem.1 hf
    simp only
    rw [decide_eq_false (by omega), cond_false]
    have hpre : (xs.take (m + 1)).filter (fun x => !p x) = xs.take m := by
      rw [List.take_add_one, List.getElem?_eq_getElem hm, List.filter_append]
      have e1 : (xs.take m).filter (fun x => !p x) = xs.take m := List.filter_eq_self.2 fun x hx => by
        obtain ⟨i, hi, e⟩ := List.getElem_of_mem hx
        rw [List.length_take] at hi
        rw [← e, List.getElem_take]
        have := hgood i (by omega)
        cases h : p xs[i] with
        | true => exact absurd h this
        | false => rfl
      rw [e1]
      simp [hbad]
    obtain ⟨q, hq, i, ys, rfl, hi, hyl, hy⟩ := iter_inv (f := slices_DeleteFunc_F2.loop1 T (ownSV id FC n) v)
      (Inv := fun st => ∃ (i j : Nat) (ys : List Fct), st = (((i : Int), (j : Int)), hL (sl.set id (.own (cellsL FC ys) 6) ++ ((xs.take (m + 1)).map (cFt true) ++ ((xs.take j).drop (m + 1)).flatMap fun x => [cFt true x, cFt true x]))) ∧ m + 1 ≤ j ∧ j ≤ n ∧ ys.length = n ∧ i < j ∧ ys.take i = (xs.take j).filter (fun x => !p x) ∧ ∀ t, j ≤ t → ys[t]? = xs[t]?)
      (Post := fun q => ∃ (i : Nat) (ys : List Fct), q = (.ex0 (i : Int), hL (sl.set id (.own (cellsL FC ys) 6) ++ ((xs.take (m + 1)).map (cFt true) ++ (xs.drop (m + 1)).flatMap fun x => [cFt true x, cFt true x]))) ∧ i ≤ n ∧ ys.length = n ∧ ys.take i = keepF p xs)
      (fun st => n - st.1.2.toNat) (fun st hi => by
        obtain ⟨i, j, ys, rfl, hmj, hjn, hyl, hij, hy, hyt⟩ := hi
        by_cases hlt : j < n
        · left
          have hxj : xs[j]? = some xs[j] := List.getElem?_eq_getElem (by omega)
          have hyj : ys[j]? = some xs[j] := by rw [hyt j (Nat.le_refl _), hxj]
          have htd : ((xs.take (j + 1)).drop (m + 1)) = (xs.take j).drop (m + 1) ++ [xs[j]] := by
            rw [List.take_add_one, hxj, Option.toList_some, List.drop_append_of_le_length (by rw [List.length_take]; omega)]
          have htf : (xs.take (j + 1)).filter (fun x => !p x) = (xs.take j).filter (fun x => !p x) ++ (bif !p xs[j] then [xs[j]] else []) := by
            rw [List.take_add_one, hxj, Option.toList_some, List.filter_append]
            cases h : p xs[j] <;> simp [h]
          obtain ⟨tr, htr⟩ : ∃ tr, tr = (xs.take (m + 1)).map (cFt true) ++ ((xs.take j).drop (m + 1)).flatMap fun x => [cFt true x, cFt true x] := ⟨_, rfl⟩
          have htr' : ((xs.take (m + 1)).map (cFt true) ++ ((xs.take (j + 1)).drop (m + 1)).flatMap fun x => [cFt true x, cFt true x]) = tr ++ [cFt true xs[j], cFt true xs[j]] := by
            rw [htr, htd, List.flatMap_append, List.append_assoc]; rfl
          obtain ⟨L, hL'⟩ : ∃ L, L = sl.set id (.own (cellsL FC ys) 6) ++ tr := ⟨_, rfl⟩
          have hLid : ∀ t, (L ++ t)[id]? = some (.own (cellsL FC ys) 6) := fun t => by
            rw [hL', List.append_assoc, List.getElem?_append_left (by rw [List.length_set]; exact hid), List.getElem?_set_self hid]
          have hLid0 : L[id]? = some (.own (cellsL FC ys) 6) := by have := hLid []; rwa [List.append_nil] at this
          have hLlen : id < L.length := (List.getElem?_eq_some_iff.1 hLid0).1
          have hw := wr_new (sl := L) (e := 6) (g := 6) (i := L.length) (cs := [.int .i64 0, .int .i64 0, .int .i64 0, .int .i64 0, .slice .nil 0 0 false, .slice .nil 0 0 false]) (vs := LT.lo true FC xs[j]) rfl rfl rfl
          have hw' : H.wrs (hL (L ++ [.own [.int .i64 0, .int .i64 0, .int .i64 0, .int .i64 0, .slice .nil 0 0 false, .slice .nil 0 0 false] 6])) (.hp L.length 6 0) [.int .i64 xs[j].1, .int .i64 xs[j].2.1, .int .i64 xs[j].2.2.1, .int .i64 xs[j].2.2.2.1, .slice (rowSV true j1 xs[j].2.2.2.2.1).a xs[j].2.2.2.2.1.length xs[j].2.2.2.2.1.length true, .slice (rowSV true t1 xs[j].2.2.2.2.2).a xs[j].2.2.2.2.2.length xs[j].2.2.2.2.2.length true] = some (hL (L ++ [cFt true xs[j]])) := hw
          have q1 := (rds_cFt (sl := L ++ [cFt true xs[j]]) (id := L.length) (x := xs[j]) (f := true) (by simp)).1
          have q2 := (rds_cFt (sl := L ++ [cFt true xs[j]] ++ [cFt true xs[j]]) (id := L.length) (x := xs[j]) (f := true) (by simp)).1
          have r1 : rdT (.agg FS) (hL L) (V.add (.hp id (n * 6) 0) (j * 6)) = some (low true xs[j]) := rd_at hLid0 hyl hyj
          have cc := fun {R : Type} (k : V → H → Option R) => @hc xs[j] (List.getElem_mem _) (L ++ [cFt true xs[j]]) (fun t ht htl => by
            rw [hL', List.append_assoc, List.getElem?_append_left (by rw [List.length_set]; exact htl), List.getElem?_set_ne (by omega)]) R k
          have cc' : ∀ {R : Type} (k : V → H → Option R), callV T.dy v [.agg [.int .i64 xs[j].1, .int .i64 xs[j].2.1, .int .i64 xs[j].2.2.1, .int .i64 xs[j].2.2.2.1, .slice (rowSV true j1 xs[j].2.2.2.2.1).a xs[j].2.2.2.2.1.length xs[j].2.2.2.2.1.length true, .slice (rowSV true t1 xs[j].2.2.2.2.2).a xs[j].2.2.2.2.2.length xs[j].2.2.2.2.2.length true]] (hL (L ++ [cFt true xs[j]])) k = k (.bool (p xs[j])) (hL (L ++ [cFt true xs[j]] ++ [cFt true xs[j]])) := fun {R} k => cc k
          rw [← htr, ← hL']
          cases hp : p xs[j]
          · refine ⟨((((i + 1 : Nat) : Int), ((j + 1 : Nat) : Int)), hL (sl.set id (.own (cellsL FC (ys.set i xs[j])) 6) ++ (tr ++ [cFt true xs[j], cFt true xs[j]]))), ?_, ⟨i + 1, j + 1, ys.set i xs[j], by rw [htr'], by omega, by omega, by rw [List.length_set, hyl], by omega, ?_, fun t ht => ?_⟩, by simp only [Int.toNat_natCast]; omega⟩
            · have wr : H.wrs (hL (L ++ [cFt true xs[j]] ++ [cFt true xs[j]])) (V.add (.hp id (n * 6) 0) (i * 6)) [.int .i64 xs[j].1, .int .i64 xs[j].2.1, .int .i64 xs[j].2.2.1, .int .i64 xs[j].2.2.2.1, .slice (rowSV true j1 xs[j].2.2.2.2.1).a xs[j].2.2.2.2.1.length xs[j].2.2.2.2.1.length true, .slice (rowSV true t1 xs[j].2.2.2.2.2).a xs[j].2.2.2.2.2.length xs[j].2.2.2.2.2.length true] = some (hL (sl.set id (.own (cellsL FC (ys.set i xs[j])) 6) ++ (tr ++ [cFt true xs[j], cFt true xs[j]]))) := by
                rw [wr_at (ys := ys) (e := 6) (by rw [List.append_assoc]; exact hLid _) hyl (by omega), hL', List.append_assoc, List.append_assoc, set_app (by rw [List.length_set]; exact hid), List.set_set]
                simp
              unfold slices_DeleteFunc_F2.loop1
              try simp -implicitDefEqProofs only [a1, a2, Int.toNat_natCast]
              rw [decide_eq_true (by omega), cond_true, guardO_pos (by omega), r1]
              try simp -implicitDefEqProofs only [Option.bind_some, low, rowSV_len, rowSV_cap, rowSV_tail, hL_new, hL_next]
              rw [hw', Option.bind_some, q1, Option.bind_some]
              try simp -implicitDefEqProofs only [low, rowSV_len, rowSV_cap, rowSV_tail]
              rw [cc']
              try simp -implicitDefEqProofs only [Res.pack, Ty.pack, Leaf.pack, Option.bind_some, hp, Bool.not_false, cond_true]
              rw [q2, Option.bind_some]
              try simp -implicitDefEqProofs only [low, rowSV_len, rowSV_cap, rowSV_tail]
              rw [guardO_pos (by omega), wr]
              try simp -implicitDefEqProofs only [Option.bind_some]
              rw [i64_suc (by omega), i64_suc (by omega)]
            · rw [htf, hp, ← hy, List.take_add_one, List.take_set_of_le (Nat.le_refl _), List.getElem?_set_self (by omega)]
              rfl
            · rw [List.getElem?_set_ne (by omega)]
              exact hyt t (by omega)
          · refine ⟨(((i : Int), ((j + 1 : Nat) : Int)), hL (L ++ [cFt true xs[j]] ++ [cFt true xs[j]])), ?_, ⟨i, j + 1, ys, by rw [htr', hL']; simp, by omega, by omega, hyl, by omega, by rw [htf, hp, hy]; simp, fun t ht => hyt t (by omega)⟩, by simp only [Int.toNat_natCast]; omega⟩
            unfold slices_DeleteFunc_F2.loop1
            try simp -implicitDefEqProofs only [a1, a2, Int.toNat_natCast]
            rw [decide_eq_true (by omega), cond_true, guardO_pos (by omega), r1]
            try simp -implicitDefEqProofs only [Option.bind_some, low, rowSV_len, rowSV_cap, rowSV_tail, hL_new, hL_next]
            rw [hw', Option.bind_some, q1, Option.bind_some]
            try simp -implicitDefEqProofs only [low, rowSV_len, rowSV_cap, rowSV_tail]
            rw [cc']
            try simp -implicitDefEqProofs only [Res.pack, Ty.pack, Leaf.pack, Option.bind_some, hp, Bool.not_true, cond_false]
            rw [i64_suc (by omega)]
        · right
          have : j = n := by omega
          subst this
          have hxt : xs.take j = xs := by rw [← hn, List.take_length]
          refine ⟨_, ?_, i, ys, rfl, by omega, hyl, by rw [hy, hxt]⟩
          unfold slices_DeleteFunc_F2.loop1
          try simp -implicitDefEqProofs only [a2]
          rw [decide_eq_false (by omega), cond_false, hxt]) FUEL (((m : Int), ((m + 1 : Nat) : Int)), hL (sl ++ (xs.take (m + 1)).map (cFt true))) ⟨m, m + 1, xs, by
            have e1 : (xs.take (m + 1)).drop (m + 1) = [] := List.drop_eq_nil_of_le (by rw [List.length_take]; omega)
            have e2 : sl.set id (.own (cellsL FC xs) 6) = sl := by
              apply List.ext_getElem?
              intro j
              by_cases hj : j = id
              · subst hj; rw [List.getElem?_set_self hid, h0]
              · rw [List.getElem?_set_ne (by omega)]
            rw [e1, e2]; simp, Nat.le_refl _, by omega, hn, by omega, by rw [hpre], fun t _ => rfl⟩ (fuel_gt (by simp only [Int.toNat_natCast]; omega))
    rw [i64_suc (by omega), hq, Option.bind_some]
    have hil : i = (keepF p xs).length := by rw [← hy, List.length_take]; omega
    obtain ⟨tr, htr⟩ : ∃ tr, tr = (xs.take (m + 1)).map (cFt true) ++ (xs.drop (m + 1)).flatMap fun x => [cFt true x, cFt true x] := ⟨_, rfl⟩
    rw [← htr]
    have hcl : (cellsL FC ys).length = n * 6 := by have := flat_length (f := true) (ls := FC) ys; rw [hyl] at this; exact this
    have hck : (cellsL FC (keepF p xs)).length = i * 6 := by have := flat_length (f := true) (ls := FC) (keepF p xs); rw [← hil] at this; exact this
    have htk : (cellsL FC ys).take (i * 6) = cellsL FC (keepF p xs) := by
      rw [← hy] at hck ⊢
      conv => lhs; rw [← List.take_append_drop i ys]
      show List.take (i * 6) (List.flatMap _ _) = _
      rw [List.flatMap_append]
      exact List.take_left' hck
    have hclear : clearH (hL (sl.set id (.own (cellsL FC ys) 6) ++ tr)) (V.add (.hp id (n * 6) 0) (i * 6)) [.int .i64 0, .int .i64 0, .int .i64 0, .int .i64 0, .slice .nil 0 0 false, .slice .nil 0 0 false] (n - i) = some (hL (sl.set id (.own (cellsL FC (keepF p xs) ++ zeros (n - i)) 6) ++ tr)) := by
      unfold clearH
      by_cases h : n - i = 0
      · have : ys = keepF p xs := by rw [← hy, List.take_of_length_le (by omega)]
        rw [if_pos h, h, this, show zeros 0 = [] from rfl, List.append_nil]
      · have hz := zeros_len (n - i)
        rw [if_neg h, show V.add (.hp id (n * 6) 0) (i * 6) = .hp id (n * 6) (i * 6) by simp [V.add], wrs_own (cs := cellsL FC ys) (e := 6) (by rw [List.getElem?_append_left (by rw [List.length_set]; exact hid), List.getElem?_set_self hid]) hcl (by rw [hz]; omega), set_app (by rw [List.length_set]; exact hid), List.set_set]
        have : splice (cellsL FC ys) (i * 6) (zeros (n - i)) = cellsL FC (keepF p xs) ++ zeros (n - i) := by
          unfold splice
          rw [htk, List.drop_eq_nil_of_le (by rw [hcl, hz]; omega), List.append_nil]
        rw [this]
    rw [a1, a2, a3, a4]
    simp only [Int.toNat_natCast, Int.toNat_zero, Nat.sub_zero]
    rw [guardO_pos ⟨by omega, by omega, by omega⟩, hclear, Option.bind_some, guardO_pos ⟨by omega, by omega, by omega⟩, ← hil, V_add0]
theorem rdT_frame {sl sl' : List Slot} {p : V} {k : Ky} (h : rdT (.agg KC) (hL sl) p = some k) (hf : ∀ j, j < sl.length → sl'[j]? = sl[j]?) : rdT (.agg KC) (hL sl') p = some k := by
  have : ∀ cs, H.from (hL sl) p = some cs → H.from (hL sl') p = some cs := fun cs hcs => by
    cases p with
    | lp b c o => exact hcs
    | hp id g o =>
      simp only [H.from] at hcs ⊢
      rw [hL_m] at hcs
      cases hj : sl[id]? with
      | none => rw [hj] at hcs; cases hcs
      | some s =>
        rw [hj] at hcs
        rw [hL_m, hf id (List.getElem?_eq_some_iff.1 hj).1, hj]
        exact hcs
    | _ => simp only [H.from, reduceCtorEq] at hcs
  simp only [rdT, H.rds, Option.bind_eq_some_iff] at h ⊢
  obtain ⟨ds, ⟨cs, h1, h2⟩, h3⟩ := h
  exact ⟨ds, ⟨cs, this cs h1, h2⟩, h3⟩
theorem key_dec (x y : Ky) : (decide (x.1 = y.1) && (decide (x.2.1 = y.2.1) && decide (x.2.2 = y.2.2))) = decide (x = y) := by
  obtain ⟨a, b, c⟩ := x
  obtain ⟨d, e, f⟩ := y
  rw [Bool.eq_iff_iff]
  simp
theorem call40 {T : Table} (hT : T.dy.fn 40 = law_ArrivalApart_3_1.e) {sl : List Slot} {p : V} {k : Ky} (x : Fct) (hk : rdT (.agg KC) (hL (sl ++ [cFt true x])) p = some k) {R : Type} (K : V → H → Option R) :
    callV T.dy (.func 40 [p]) [argF true x] (hL sl) K = K (.bool (!decide (keyF x = k))) (hL (sl ++ [cFt true x])) := by
  have r1 : rdT (.agg KC) (hL (sl ++ [cFt true x])) (.hp sl.length 6 0) = some (keyF x) := (rds_cFt (f := true) (by simp)).2
  show (T.dy.fn 40).cps [argF true x, p] (hL sl) K = _
  rw [hT]
  show (law_ArrivalApart_3_1 (low true x) p (hL sl)).bind (fun p => K (.bool p.1) p.2) = _
  have : law_ArrivalApart_3_1 (low true x) p (hL sl) = some (!decide (keyF x = k), hL (sl ++ [cFt true x])) := by
    obtain ⟨x0, x1, x2, x3, x4, x5⟩ := x
    obtain ⟨k0, k1, k2⟩ := k
    unfold law_ArrivalApart_3_1
    try simp -implicitDefEqProofs only [low, rowSV_len, rowSV_cap, rowSV_tail, hL_new, hL_next]
    have e : (Slot.own [.int .i64 x0, .int .i64 x1, .int .i64 x2, .int .i64 x3, .slice (rowSV true [.int .i64] x4).a x4.length x4.length true, .slice (rowSV true [.str] x5).a x5.length x5.length true] 6) = cFt true (x0, x1, x2, x3, x4, x5) := rfl
    rw [e, r1, Option.bind_some, hk, Option.bind_some]
    have := key_dec (keyF (x0, x1, x2, x3, x4, x5)) (k0, k1, k2)
    simp only [keyF] at this ⊢
    rw [this]
  rw [this]
  rfl
abbrev A4 := SV × SV × SV × SV
abbrev slV4 (s : SV) : V := .slice s.a s.len s.cap s.tail
abbrev cS4 (a : A4) : List V := [slV4 a.1, slV4 a.2.1, slV4 a.2.2.1, slV4 a.2.2.2]
abbrev notK (k : Ky) (x : Fct) : Bool := !decide (keyF x = k)
def ownRes (n : Nat) (a : A4) (k : Ky) (xs : List Fct) : SV × List Slot :=
  if xs.length = 0 then (⟨.lp true [] 0, 0, 0, false⟩, [.own (cS4 a) 4])
  else (⟨.hp (n + 1) (xs.length * 6) 0, (keepF (notK k) xs).length, xs.length, true⟩, [.own (cS4 a) 4, .own (cellsL FC (keepF (notK k) xs) ++ zeros (xs.length - (keepF (notK k) xs).length)) 6] ++ trail (notK k) xs)
def appSl (h : H) : List Slot → H
  | [] => h
  | s :: l => appSl (h.newS s) l
theorem newS_hL {sl : List Slot} {s : Slot} : (hL sl).newS s = hL (sl ++ [s]) := by
  refine H.ext' (by simp [H.newS, hL]) fun j => ?_
  simp only [H.newS, hL_m, hL_next]
  by_cases hj : j = sl.length
  · subst hj
    rw [List.getElem?_append_right (Nat.le_refl _), Nat.sub_self, Nat.beq_refl]
    rfl
  · rw [beq_ne hj, cond_false]
    rcases Nat.lt_or_ge j sl.length with h | h
    · rw [List.getElem?_append_left h]
    · rw [List.getElem?_eq_none h, List.getElem?_eq_none (by rw [List.length_append, List.length_singleton]; omega)]
theorem appSl_hL (sl : List Slot) : ∀ l : List Slot, appSl (hL sl) l = hL (sl ++ l)
  | [] => by simp [appSl]
  | s :: l => by
    show appSl ((hL sl).newS s) l = _
    rw [newS_hL, appSl_hL (sl ++ [s]) l]
    simp
theorem appSl_next : ∀ (l : List Slot) (h : H), h.next ≤ (appSl h l).next
  | [], h => Nat.le_refl _
  | s :: l, h => Nat.le_trans (Nat.le_succ _) (appSl_next l (h.newS s))
theorem appSl_old : ∀ (l : List Slot) (h : H) (j : Nat), j < h.next → (appSl h l).m j = h.m j
  | [], h, j, _ => rfl
  | s :: l, h, j, hj => by
    unfold appSl
    rw [appSl_old l (h.newS s) j (Nat.lt_succ_of_lt hj)]
    simp only [H.newS, beq_ne (show j ≠ h.next by omega), cond_false]
theorem newS_put {h : H} {i : Nat} {s s' : Slot} (hi : i < h.next) : H.newS (h.put i s) s' = (h.newS s').put i s := by
  refine H.ext' rfl fun j => ?_
  simp only [H.newS, H.put]
  by_cases hj : j = i
  · subst hj; rw [beq_ne (show j ≠ h.next by omega)]; rfl
  · rw [beq_ne hj]; rfl
theorem appSl_put : ∀ (l : List Slot) (h : H) (i : Nat) (s : Slot), i < h.next → appSl (h.put i s) l = (appSl h l).put i s
  | [], h, i, s, _ => rfl
  | s' :: l, h, i, s, hi => by
    unfold appSl
    rw [newS_put hi, appSl_put l (h.newS s') i s (Nat.lt_succ_of_lt hi)]
noncomputable def ownFree (a : A4) (p : V) (h : H) : Option (SV × H) :=
  open Classical in
  match rdRow true H.empty FC a.1, rdT (.agg KC) h p with
  | some xs, some k => if (∃ f, a.1 = rowSV f FC xs) ∧ xs.length ≤ 2 ^ 20 ∧ (∀ x ∈ xs, smallF x) ∧ ∀ j, h.next ≤ j → h.m j = .fresh then some ((ownRes h.next a k xs).1, appSl h (ownRes h.next a k xs).2) else none
  | _, _ => none
theorem ownFree_is {a : A4} {p : V} {h : H} {r : SV × H} (hr : ownFree a p h = some r) : ∃ f xs k, a.1 = rowSV f FC xs ∧ rdT (.agg KC) h p = some k ∧ xs.length ≤ 2 ^ 20 ∧ (∀ x ∈ xs, smallF x) ∧ (∀ j, h.next ≤ j → h.m j = .fresh) ∧ r = ((ownRes h.next a k xs).1, appSl h (ownRes h.next a k xs).2) := by
  unfold ownFree at hr
  split at hr
  · rename_i xs k h1 h2
    split at hr
    · rename_i hc
      obtain ⟨⟨f, e⟩, c1, c2, c3⟩ := hc
      simp only [Option.some.injEq] at hr
      exact ⟨f, xs, k, e, h2, c1, c2, c3, hr.symm⟩
    · cases hr
  · cases hr
theorem own_at {a : A4} {p : V} {sl : List Slot} {r : SV × H} (hr : ownFree a p (hL sl) = some r) : law_ArrivalApart_3 a p (hL sl) = some r := by
  obtain ⟨f, xs, k, ha, hk, hl, hs, _, hr⟩ := ownFree_is hr
  rw [hr, appSl_hL, hL_next]
  have rb : rdT (.leaf .slice) (hL (sl ++ [.own (cS4 a) 4])) (.hp sl.length 4 0) = some a.1 := by
    rw [rd_own (g := 4) (e := 4) (cs := cS4 a) (by simp) rfl]; rfl
  obtain ⟨a0, a1, a2, a3⟩ := a
  simp only at ha
  subst ha
  unfold law_ArrivalApart_3 ownRes
  try simp -implicitDefEqProofs only [hL_new, hL_next]
  have rb' : rdT (.leaf .slice) (hL (sl ++ [.own [.slice (rowSV f FC xs).a (rowSV f FC xs).len (rowSV f FC xs).cap (rowSV f FC xs).tail, .slice a1.a a1.len a1.cap a1.tail, .slice a2.a a2.len a2.cap a2.tail, .slice a3.a a3.len a3.cap a3.tail] 4])) (.hp sl.length 4 0) = some (rowSV f FC xs) := rb
  rw [rb', Option.bind_some]
  by_cases h0 : xs.length = 0
  · have : xs = [] := List.eq_nil_of_length_eq_zero h0
    subst this
    rw [cp_nil, Option.bind_some]
    simp only
    have IX := IndexF_grow (T := slices_DeleteFunc_F2.tb law_ArrivalApart_3.tb) (v := .func 40 [p]) (B := sl ++ [.own (cS4 (rowSV f FC [], a1, a2, a3)) 4]) (xs := []) (s := ⟨.lp true [] 0, 0, 0, false⟩) (f := true) (notK k) rfl (by simp)
      (fun i x hx => by cases hx) (fun x hx => by cases hx)
    have D : slices_DeleteFunc_F2 law_ArrivalApart_3.tb ⟨.lp true [] 0, 0, 0, false⟩ (.func 40 [p]) (hL (sl ++ [.own (cS4 (rowSV f FC [], a1, a2, a3)) 4])) = some (⟨.lp true [] 0, 0, 0, false⟩, hL (sl ++ [.own (cS4 (rowSV f FC [], a1, a2, a3)) 4])) := by
      unfold slices_DeleteFunc_F2
      rw [IX, Option.bind_some]
      simp [idxT, idxOf]
    rw [D]
    rfl
  · rw [cp_at hl hs h0, Option.bind_some, if_neg h0]
    simp only
    have hlen : (sl ++ [Slot.own (cS4 (rowSV f FC xs, a1, a2, a3)) 4]).length = sl.length + 1 := by simp
    have D := Delete_at (T := law_ArrivalApart_3.tb) (v := .func 40 [p]) (sl := sl ++ [.own (cS4 (rowSV f FC xs, a1, a2, a3)) 4] ++ [.own (cellsL FC xs) 6]) (id := (sl ++ [Slot.own (cS4 (rowSV f FC xs, a1, a2, a3)) 4]).length) (n := xs.length) (xs := xs) (notK k) (by simp) rfl hl
      (fun x hx sl' hsl R K => call40 rfl x (rdT_frame hk fun j hj => by
        by_cases hjl : j < sl'.length
        · rw [List.getElem?_append_left hjl, hsl j (by rw [hlen]; omega) (by rw [List.length_append, hlen]; omega), List.append_assoc, List.getElem?_append_left hj]
        · have := hsl j (by rw [hlen]; omega) (by rw [List.length_append, hlen]; omega)
          rw [List.getElem?_eq_none (by omega), List.append_assoc, List.getElem?_append_left hj] at this
          rw [List.getElem?_eq_getElem hj] at this
          cases this) K)
    rw [set_new rfl] at D
    have D' : slices_DeleteFunc_F2 law_ArrivalApart_3.tb (ownSV (sl ++ [Slot.own (cS4 (rowSV f FC xs, a1, a2, a3)) 4]).length FC xs.length) (.func 40 [p]) (hL (sl ++ [.own (cS4 (rowSV f FC xs, a1, a2, a3)) 4] ++ [.own (cellsL FC xs) 6])) = _ := D
    rw [D', Option.bind_some, hlen]
    simp
noncomputable def ownFree.e : Entry := { mkX [.agg [.slice, .slice, .slice, .slice], .leaf .ptr] (.one (.leaf .slice)) (fun x h => ownFree x.1 x.2 h) with
  free := true
  hfree := fun _ args h v h' hv => by
    obtain ⟨x, r, hx, hf, rfl⟩ := mkX_call hv
    obtain ⟨f, xs, k, ha, hk, c1, c2, c3, hr⟩ := ownFree_is hf
    simp only [Prod.mk.injEq] at hr
    obtain ⟨rfl, rfl⟩ := hr
    refine ⟨appSl_next _ _, fun j hj => ?_, fun i s hi hfr => ⟨?_, ?_⟩⟩
    · rcases Nat.lt_or_ge j h.next with h1 | h1
      · exact appSl_old _ _ _ h1
      · exact absurd (c3 j h1) hj
    · rw [appSl_old _ _ _ hi]; exact hfr
    · refine mkX_give hx ?_
      have h1 : rdRow true H.empty FC x.1.1 = some xs := by rw [ha]; exact rdRow_args rfl
      have h2 : rdT (.agg KC) (h.put i s) x.2 = some k := by
        simp only [rdT, H.rds, Option.bind_eq_some_iff] at hk ⊢
        obtain ⟨ds, ⟨cs, k1, k2⟩, k3⟩ := hk
        exact ⟨ds, ⟨cs, from_mono (fun cs e hh => by rw [hfr] at hh; cases hh) k1, k2⟩, k3⟩
      show ownFree x.1 x.2 (h.put i s) = _
      unfold ownFree
      rw [h1, h2]
      simp only
      rw [if_pos ⟨⟨f, ha⟩, c1, c2, fun j hj => by
        show (h.put i s).m j = .fresh
        have hj' : h.next ≤ j := hj
        simp only [H.put, beq_ne (show j ≠ i by omega), cond_false]
        exact c3 j hj'⟩]
      show some (_, appSl (h.put i s) _) = _
      rw [appSl_put _ _ _ _ hi]
      rfl }
theorem ownFree.ok : EntryOK Tryz.prog 39 ownFree.e := by
  have := mkX_sub (rs := .one (.leaf .slice)) (f' := fun (x : TT [.agg [.slice, .slice, .slice, .slice], .leaf .ptr]) h => ownFree x.1 x.2 h) law_ArrivalApart_3.ok (fun _ => rfl) fun x sl r hr => own_at hr
  exact this
def cutC (cs : List V) (i : Nat) : List V := cs.take (i * 6) ++ cs.drop (i * 6 + 6) ++ zeros 1
noncomputable def deleteLoc (a0 : SV) (a1 a2 : Int) (h : H) : Option (SV × H) :=
  match a0.a with
  | .hp id g off => match h.m id with
    | .own cs e => guardO (off = 0 ∧ g = cs.length ∧ cs.length = a0.len * 6 ∧ a0.cap = a0.len ∧ a0.tail = true ∧ 0 ≤ a1 ∧ a2 = a1 + 1 ∧ a1 < a0.len ∧ a0.len ≤ 2 ^ 20)
        (some (⟨.hp id g 0, a0.len - 1, a0.len, true⟩, h.put id (.own (cutC cs a1.toNat) e)))
    | _ => none
  | _ => none
theorem delete_is {a0 : SV} {a1 a2 : Int} {h : H} {r : SV × H} (hr : deleteLoc a0 a1 a2 h = some r) : ∃ id cs e, ∃ i n : Nat, a0 = ⟨.hp id (n * 6) 0, n, n, true⟩ ∧ a1 = i ∧ a2 = i + 1 ∧ i < n ∧ n ≤ 2 ^ 20 ∧ h.m id = .own cs e ∧ cs.length = n * 6 ∧ r = (⟨.hp id (n * 6) 0, n - 1, n, true⟩, h.put id (.own (cutC cs i) e)) := by
  obtain ⟨a, len, cap, tail⟩ := a0
  unfold deleteLoc at hr
  cases a <;> simp only [reduceCtorEq] at hr
  rename_i id g off
  cases hm : h.m id <;> rw [hm] at hr <;> simp only [reduceCtorEq] at hr
  rename_i cs e
  unfold guardO at hr
  split at hr
  case isFalse => cases hr
  rename_i hc
  obtain ⟨c1, c2, c3, c4, c5, c6, c7, c8, c9⟩ := hc
  cases hr
  subst c1 c4 c5
  obtain ⟨i, rfl⟩ := Int.eq_ofNat_of_zero_le c6
  exact ⟨id, cs, e, i, cap, by rw [c2, c3], rfl, c7, by omega, c9, hm, c3, by rw [c2, c3]; rfl⟩
theorem delete_at {a0 : SV} {a1 a2 : Int} {sl : List Slot} {r : SV × H} (hr : deleteLoc a0 a1 a2 (hL sl) = some r) : slices_Delete_F2 a0 a1 a2 (hL sl) = some r := by
  obtain ⟨id, cs, e, i, n, rfl, rfl, rfl, hi, hn, hm, hl, rfl⟩ := delete_is hr
  have hs : sl[id]? = some (.own cs e) := by
    rw [hL_m] at hm
    cases h : sl[id]? with
    | none => rw [h] at hm; cases hm
    | some s => rw [h] at hm; exact congrArg some hm
  have hid := (List.getElem?_eq_some_iff.1 hs).1
  unfold slices_Delete_F2
  simp only
  rw [guardO_pos ⟨by omega, by omega, by omega, by omega⟩, decide_eq_false (show ¬ ((i : Int) = (i : Int) + 1) by omega), cond_false]
  rw [guardO_pos ⟨by omega, by omega, by omega⟩, guardO_pos ⟨by omega, by omega, by omega⟩]
  have e1 : Int.toNat ((i : Int) + 1) = i + 1 := by omega
  have e2 : Int.toNat ((n : Nat) : Int) = n := by omega
  have e3 : Int.toNat (i : Int) = i := by omega
  have e4 : (Int.toNat 0) = 0 := rfl
  rw [e1, e2, e3, e4, Nat.sub_zero, Nat.sub_zero, hL_reserve]
  simp only [List.replicate, List.append_nil, V.add, Nat.zero_add, Nat.add_zero]
  have hrep : List.replicate 0 Slot.fresh = [] := rfl
  obtain ⟨rest, hrest⟩ : ∃ rest, rest = cs.drop (i * 6 + 6) := ⟨_, rfl⟩
  have hrl : rest.length = (n - (i + 1)) * 6 := by rw [hrest, List.length_drop, hl]; omega
  have hcell : cellsOf (hL sl) (.slice (.hp id (n * 6) ((i + 1) * 6)) (n - (i + 1)) (n - (i + 1)) true) 6 = some (n - (i + 1), rest) := by
    unfold cellsOf
    by_cases h0 : n - (i + 1) = 0
    · simp only [h0, if_true]
      rw [h0, Nat.zero_mul] at hrl
      rw [List.eq_nil_of_length_eq_zero hrl]
    · simp only [h0, if_false, H.rds, H.from, hL_m, hs, Option.getD_some, hl, if_true, Option.bind_some]
      rw [show (i + 1) * 6 = i * 6 + 6 by omega, ← hrest, if_pos ⟨by rw [hrl]; omega, by omega⟩, List.take_of_length_le (by rw [hrl]; omega)]
      rfl
  rw [hcell, Option.bind_some]
  simp only
  have hlast : ∀ (ds : List V), ds.length = n * 6 → ds.take ((n - 1) * 6) = cs.take (i * 6) ++ rest → ∀ sl', sl' = sl.set id (.own ds e) → H.wrs (hL sl') (.hp id (n * 6) ((n - 1) * 6)) (zeros 1) = some (hL (sl.set id (.own (cutC cs i) e))) := fun ds hd ht sl' hsl => by
    have hs' : sl'[id]? = some (.own ds e) := by rw [hsl, List.getElem?_set_self hid]
    simp only [H.wrs, hL_m, hs', Option.getD_some]
    rw [if_pos ⟨hd, by rw [zeros_len]; omega⟩, hL_put (by rw [hsl, List.length_set]; exact hid), hsl, List.set_set]
    have : splice ds ((n - 1) * 6) (zeros 1) = cutC cs i := by
      unfold splice cutC
      rw [ht, ← hrest, zeros_len, List.drop_eq_nil_of_le (by rw [hd]; omega), List.append_nil]
    rw [this]
  have hz : ∀ h (a : V), clearH h a [.int .i64 0, .int .i64 0, .int .i64 0, .int .i64 0, .slice .nil 0 0 false, .slice .nil 0 0 false] 1 = h.wrs a (zeros 1) := fun _ _ => rfl
  unfold appendS appendV
  simp only
  by_cases h0 : n - (i + 1) = 0
  · have hin : i = n - 1 := by omega
    rw [if_pos h0, Option.bind_some]
    simp only
    rw [guardO_pos ⟨by omega, by omega, by omega⟩, show Int.toNat ((i : Nat) : Int) = i from e3, show n - i = 1 by omega, hz, show 0 + i * 6 = (n - 1) * 6 by rw [hin]; omega]
    rw [hlast cs hl (by
      have : rest = [] := List.eq_nil_of_length_eq_zero (by rw [hrl, h0])
      rw [this, List.append_nil, hin]) sl (by
      apply List.ext_getElem?
      intro j
      by_cases hj : j = id
      · subst hj; rw [List.getElem?_set_self hid, hs]
      · rw [List.getElem?_set_ne (Ne.symm hj)]), Option.bind_some, hL_put hid, hin]
  · rw [if_neg h0, guardO_pos ⟨by unfold roomCells; omega, by decide⟩]
    simp only [hL_m, hs, Option.getD_some]
    rw [if_neg (show ¬ n = 0 by omega), if_pos (show i + (n - (i + 1)) ≤ n by omega)]
    have hw : H.wrs (hL sl) (.hp id (n * 6) (i * 6)) rest = some (hL (sl.set id (.own (splice cs (i * 6) rest) e))) := by
      simp only [H.wrs, hL_m, hs, Option.getD_some]
      rw [if_pos ⟨hl, by rw [hrl]; omega⟩, hL_put hid]
    rw [show 0 + i * 6 = i * 6 by omega, hw, Option.bind_some, Option.bind_some]
    simp only
    rw [show i + (n - (i + 1)) = n - 1 by omega, guardO_pos ⟨by omega, by omega, by omega⟩, show Int.toNat ((n - 1 : Nat) : Int) = n - 1 by omega, show n - (n - 1) = 1 by omega, hz]
    have hsl : (splice cs (i * 6) rest).length = n * 6 := by
      unfold splice
      rw [List.length_append, List.length_append, List.length_take, List.length_drop, hrl]
      omega
    rw [show 0 + (n - 1) * 6 = (n - 1) * 6 by omega, hlast _ hsl (by
      unfold splice
      rw [List.take_append_of_le_length (by rw [List.length_append, List.length_take, hrl]; omega), List.take_of_length_le (by rw [List.length_append, List.length_take, hrl]; omega)]) _ rfl, Option.bind_some, hL_put hid]
noncomputable def deleteLoc.e : Entry := { mkX [.leaf .slice, .leaf (.int .i64), .leaf (.int .i64)] (.one (.leaf .slice)) (fun x h => deleteLoc x.1 x.2.1 x.2.2 h) with
  loc := true
  hloc := fun _ args h v h' hv => by
    obtain ⟨x, r, hx, hf, rfl⟩ := mkX_call hv
    obtain ⟨id, cs, e, i, n, h1, h2, h3, h4, h5, h6, h7, h8⟩ := delete_is hf
    simp only [Prod.mk.injEq] at h8
    obtain ⟨rfl, rfl⟩ := h8
    have ha : args = [.slice x.1.a x.1.len x.1.cap x.1.tail, .int .i64 x.2.1, .int .i64 x.2.2] := by
      have := TT.un_pack _ args x hx
      rw [← this]
      rfl
    rw [h1] at ha
    refine ⟨id, n * 6, 0, n, n, true, _, _, ha, by rw [h6]; simp, rfl, fun h₂ hh => ?_⟩
    refine mkX_give hx ?_
    show deleteLoc x.1 x.2.1 x.2.2 h₂ = _
    rw [h1, h2, h3]
    unfold deleteLoc
    simp only [hh, h6]
    rw [guardO_pos ⟨trivial, h7.symm, h7, trivial, trivial, by omega, trivial, by omega, h5⟩]
    rfl }
theorem deleteLoc.ok : EntryOK Tryz.prog 45 deleteLoc.e := by
  have := mkX_sub (rs := .one (.leaf .slice)) (f' := fun (x : TT [.leaf .slice, .leaf (.int .i64), .leaf (.int .i64)]) h => deleteLoc x.1 x.2.1 x.2.2 h) slices_Delete_F2.ok (fun _ => rfl) fun x sl r hr => delete_at hr
  exact this
noncomputable def sortFacts (a0 : SV) (a1 : V) (h : H) : Option (Unit × H) := sortX 33 FC cmpF okF a0 a1 h
noncomputable def sortKeys (a0 : SV) (a1 : V) (h : H) : Option (Unit × H) := sortX 58 KC cmpK (fun _ => true) a0 a1 h
def deads (h : H) (k : Nat) : H := { next := h.next + k, m := fun i => bif Nat.blt i h.next then h.m i else bif Nat.blt i (h.next + k) then .dead else .fresh }
noncomputable def sortedKeys (a0 a1 : V) (h : H) : Option (SV × H) :=
  match a0, a1 with
  | .func 111 [p], .func 58 [] => (rdT (.leaf .map) h p).bind fun r => (r : Option Nat).bind fun id => (h.gmap id KeyT (.leaf .slice)).bind fun l =>
    guardO (l.length ≤ 2000 ∧ (l.map (·.1)).Pairwise fun a b => cmpK a b ≠ 0)
      (if l.length = 0 then some (⟨.lp true [] 0, 0, 0, false⟩, deads h 3)
      else some (ownSV (h.next + 5) KC l.length, deads ((deads h 5).new (cellsL KC (sortB cmpK (l.map (·.1)))) 3) (3 * l.length)))
  | _, _ => none
theorem blt_t {i n : Nat} (h : i < n) : Nat.blt i n = true := by unfold Nat.blt; rw [Nat.ble_eq]; exact h
theorem blt_f {i n : Nat} (h : n ≤ i) : Nat.blt i n = false := by
  cases hb : Nat.blt i n with
  | false => rfl
  | true => unfold Nat.blt at hb; rw [Nat.ble_eq] at hb; omega
noncomputable def sortFacts.e : Entry := mkX [.leaf .slice, .leaf .dyn] (.many []) fun x h => sortFacts x.1 x.2 h
theorem sortFacts.ok : EntryOK Tryz.prog 56 sortFacts.e :=
  sortX_ok (ρS := Tryz.sortF_ren) (ls := FC) (gP := fun x => fact_CompareP x.1 x.2) Tryz.sortF Tryz.isAgg42 Tryz.sizeOf42 (by decide) rfl cmpF_to.ord
    (run_callFunc Tryz.func56 rfl (by kernel_rfl)) (run_callFunc Tryz.func33 rfl (by kernel_rfl)) fact_CompareP.ok fun x y hx _ => Compare_ok x y hx
noncomputable def sortKeys.e : Entry := mkX [.leaf .slice, .leaf .dyn] (.many []) fun x h => sortKeys x.1 x.2 h
theorem sortKeys.ok : EntryOK Tryz.prog 57 sortKeys.e :=
  sortX_ok (ρS := Tryz.sortK_ren) (ls := KC) (gP := fun x => fact_KeysP x.1 x.2) Tryz.sortK Tryz.isAgg24 Tryz.sizeOf24 (by decide) rfl cmpK_to.ord
    (run_callFunc Tryz.func57 rfl (by kernel_rfl)) (run_callFunc Tryz.func58 rfl (by kernel_rfl)) fact_KeysP.ok fun x y _ _ => Keys_ok x y
theorem rel_forget {base : Nat} {ρ : Ren} {h h2 : H} {w : World} (hr : Rel base ρ h w) (hm : ∀ i, h2.m i = h.m i ∨ h2.m i = .dead) (hn : ∀ i, h2.next ≤ i → h2.m i = .fresh) : Rel base ρ h2 w := by
  have own : ∀ i cs e, h2.m i = .own cs e → h.m i = .own cs e := fun i cs e hi => by
    rcases hm i with k | k
    · rw [← k]; exact hi
    · rw [hi] at k; cases k
  refine ⟨hr.gl, hr.hb, fun i g y hy => ?_, fun i cs e hi => hr.own i cs e (own i cs e hi), fun i g y cs e hy hi => hr.gens i g y cs e hy (own i cs e hi), hn, fun i i' c1 c2 e1 e2 b1 y b' y' hne h1 h2 => hr.sep i i' c1 c2 e1 e2 b1 y b' y' hne (own _ _ _ h1) (own _ _ _ h2), hr.fzok, hr.fznew, fun f b i us id cs e y hf hi => hr.fzsep f b i us id cs e y hf (own _ _ _ hi),
    hr.objs.keep (Ren.le.refl _) (fun i s hi hs => ?_) (fun _ h => h) (fun _ _ h => h) (fun _ _ e _ => e) (Nat.le_refl _)⟩
  · rcases hm i with k | k
    · rw [k]; exact hr.used i g y hy
    · rw [k]; simp
  · rcases hm i with k | k
    · rw [← k]; exact hi
    · rw [k] at hi; subst hi; cases hs
theorem hL_of {h : H} (ht : ∀ i, h.next ≤ i → h.m i = .fresh) : h = hL ((List.range h.next).map h.m) := by
  refine H.ext' (by simp [hL]) fun i => ?_
  simp only [hL_m]
  rcases Nat.lt_or_ge i h.next with hi | hi
  · rw [List.getElem?_map, List.getElem?_range hi]; rfl
  · rw [List.getElem?_eq_none (by simpa using hi), ht i hi]; rfl
theorem sort_own {h' : H} {i : Nat} {ks : List Ky} (hi : h'.m i = .own (cellsL KC ks) 3) (h0 : ks ≠ []) (hl : ks.length ≤ 2000) (hp : ks.Pairwise fun a b => cmpK a b ≠ 0) :
    sortKeys (ownSV i KC ks.length) (.func 58 []) h' = some ((), h'.put i (.own (cellsL KC (sortB cmpK ks)) 3)) := by
  have hn : ks.length ≠ 0 := fun e => h0 (List.eq_nil_of_length_eq_zero e)
  have hcl : (cellsL KC ks).length = ks.length * 3 := flat_length (ls := KC) ks
  have hrd : h'.rds (.hp i (ks.length * 3) 0) (ks.length * 3) = some (cellsL KC ks) := by
    simp only [H.rds, H.from, hi, hcl, if_true, List.drop_zero, Option.bind_some]
    rw [if_pos ⟨Nat.le_refl _, by omega⟩, List.take_of_length_le (by rw [hcl]; exact Nat.le_refl _)]
  have hmp : mapO (fun x => (rdLT true (h'.put i .dead) KC x).bind fun y => some (y, x)) (chunks KC.length ks.length (cellsL KC ks)) = some (ks.map fun y => (y, LT.lo true KC y)) := by
    rw [chunks_flat]
    have : ∀ (ys : List Ky), mapO (fun x => (rdLT true (h'.put i .dead) KC x).bind fun y => some (y, x)) (ys.map fun x => LT.lo true KC x) = some (ys.map fun y => (y, LT.lo true KC y)) := fun ys => by
      induction ys with
      | nil => rfl
      | cons y ys ih => simp only [List.map_cons, mapO, rdLT_lo (f := true) (lp := true) rfl KC y rfl, Option.bind_some, ih]
    exact this ks
  have hsort : (sortB (fun p q : Ky × List V => cmpK p.1 q.1) (ks.map fun y => (y, LT.lo true KC y))).flatMap (·.2) = cellsL KC (sortB cmpK ks) := by
    rw [sortB_map (fun y : Ky => (y, LT.lo true KC y)) (fun p q : Ky × List V => cmpK p.1 q.1), List.flatMap_map]
  have hsl : (cellsL KC (sortB cmpK ks)).length = ks.length * 3 := by rw [flat_length (ls := KC), sortB_perm.length_eq]; rfl
  show (if 58 = 58 then (if ks.length = 0 then some ((), h') else (h'.rds (.hp i (ks.length * 3) 0) (ks.length * 3)).bind fun cs => (mapO (fun x => (rdLT true (h'.put i .dead) KC x).bind fun y => some (y, x)) (chunks KC.length ks.length cs)).bind fun ps =>
    guardO (ks.length ≤ 2 ^ 20 ∧ ps.all (fun _ => true) = true ∧ ps.Pairwise fun p q => cmpK p.1 q.1 ≠ 0)
        ((h'.wrs (.hp i (ks.length * 3) 0) ((sortB (fun p q => cmpK p.1 q.1) ps).flatMap (·.2))).bind fun h' => some ((), h'))) else none) = _
  rw [if_pos rfl, if_neg hn, hrd, Option.bind_some, hmp, Option.bind_some, guardO_pos ⟨by omega, by simp, by rw [List.pairwise_map]; exact hp⟩, hsort]
  simp only [H.wrs, hi]
  rw [if_pos ⟨hcl, by rw [hsl, hcl]; omega⟩, Option.bind_some]
  have : splice (cellsL KC ks) 0 (cellsL KC (sortB cmpK ks)) = cellsL KC (sortB cmpK ks) := by
    simp only [splice, List.take_zero, List.nil_append, Nat.zero_add]
    rw [List.drop_eq_nil_of_le (by rw [hsl, hcl]; exact Nat.le_refl _), List.append_nil]
  rw [this]
noncomputable def sortedKeys.e : Entry := mkX [.leaf .dyn, .leaf .dyn] (.one (.leaf .slice)) fun x h => sortedKeys x.1 x.2 h
theorem sortedKeys.ok : EntryOK Tryz.prog 89 sortedKeys.e := by
  refine mkX_of fun x h r hfin hx base ρ w us hrel hrl => .inl ⟨run_callFunc Tryz.func89 rfl (by kernel_rfl) _ _, ?_⟩
  obtain ⟨a0, a1⟩ := x
  simp only [sortedKeys] at hx
  split at hx
  case h_2 => cases hx
  rename_i p
  simp only [Option.bind_eq_some_iff] at hx
  obtain ⟨rr, hrd, id, rfl, l, hg, hx⟩ := hx
  unfold guardO at hx
  split at hx
  case isFalse => cases hx
  rename_i hguard
  obtain ⟨hlen, hpw⟩ := hguard
  obtain ⟨sl, hsl⟩ : ∃ sl, sl = (List.range h.next).map h.m := ⟨_, rfl⟩
  have hh : h = hL sl := by rw [hsl]; exact hL_of hrel.top
  have hnx : h.next = sl.length := by rw [hsl]; simp
  obtain ⟨es, hid, hun⟩ : ∃ es, sl[id]? = some (.gmap es) ∧ unG KeyT (.leaf .slice) es = some l := by
    simp only [H.gmap] at hg
    split at hg
    · rename_i es hm
      refine ⟨es, ?_, hg⟩
      rw [hh, hL_m] at hm
      cases hq : sl[id]? with
      | none => rw [hq] at hm; cases hm
      | some s => rw [hq] at hm; exact congrArg some hm
    · cases hg
  obtain ⟨u0, us1, rfl, hu0, u1, us2, rfl, hu1, hnil⟩ := hrl
  have hnil' : us2 = [] := hnil
  subst hnil'
  have hu1' : u1 = .func (.func 58) #[] #[] := by
    obtain ⟨uc, h1, h2⟩ := hu1
    have : uc = [] := h2
    subst this
    exact h1
  -- Collect
  have hTW : TabW Tryz.prog apT := (TabW.nil _).tabI (allI_cons itE.ok (allI_nil _))
  have hnone : R ρ (.slice .nil 0 0 false) (.slice none 0 0) := ⟨none, 0, rfl, Nat.le_refl _, Nat.le_refl _, fun _ => rfl, fun _ => rfl, .inr rfl, fun h => absurd rfl h, fun _ _ _ h => by cases h⟩
  have hap := apK_ok (p := p) (by rw [← hh]; exact hrd) hid hun hlen
  rw [← hh, ← apK_eq] at hap
  have h136 := (fn_callsK hTW Tryz.mixed Tryz.func136 hap rfl).2 base ρ w [.slice none 0 0, u0] YOK.none hrel ⟨_, _, rfl, hnone, _, _, rfl, hu0, rfl⟩
  have hcol := collect_walk (v := u0) (w := w) (Post := fun r w' => ∃ s h' ρ', Got sl l s h' ∧ ρ.le ρ' ∧ Rel base ρ' h' w' ∧ Below base w w' ∧ R ρ' (.slice s.a s.len s.cap s.tail) r) (h136.mono fun e w' he => by
    obtain ⟨s, h', hk, ρ', val, g1, g2, g3, rfl, g5⟩ := he
    refine ⟨val, rfl, s, h', ρ', ?_, g1, g2, g3, g5⟩
    unfold kGot at hk
    split at hk
    · assumption
    · cases hk)
  refine Calls.mono (sorted_walk (v2 := u1) (Post2 := fun val w' => ∃ ρ', ρ.le ρ' ∧ Rel base ρ' hfin w' ∧ Below base w w' ∧ R ρ' (Res.un (.one (.leaf .slice)) r) val) hcol ?_) fun e w' he => ?_
  · intro val w' hpost
    obtain ⟨s, h', ρ', ⟨ks, hperm, hold, hnext, hfr, hcase⟩, g1, g2, g3, g5⟩ := hpost
    have hkl : ks.length = l.length := by rw [hperm.length_eq, List.length_map]
    have hsym : ∀ {a b : Ky}, cmpK a b ≠ 0 → cmpK b a ≠ 0 := fun h1 h2 => h1 (cmpK_to.ord.zero h2)
    have hpk : ks.Pairwise fun a b => cmpK a b ≠ 0 := (hperm.pairwise_iff hsym).2 hpw
    have run57 : ∀ h2, sortKeys s (.func 58 []) h' = some ((), h2) → Calls Tryz.prog 57 #[val, u1] w' (Ret base ρ' h2 (Res.un (.many []) ()) w') := fun h2 hs => by
      have h57 := ((sortKeys.ok [.slice s.a s.len s.cap s.tail, .func 58 []] h').2 (Res.un (.many []) ()) h2 (by
        simp only [sortKeys.e, mkX]
        have : TT.pack [.leaf .slice, .leaf .dyn] [.slice s.a s.len s.cap s.tail, .func 58 []] = some (s, .func 58 []) := rfl
        rw [this, Option.bind_some]
        simp only
        rw [hs]
        rfl)).2 base ρ' w' [val, u1] g2 ⟨_, _, rfl, g5, _, _, rfl, by rw [hu1']; exact ⟨[], rfl, rfl⟩, rfl⟩
      rcases h57 with ⟨_, h⟩ | ⟨v2, w2, e1, _⟩
      · exact h
      · have e2 := ready57 ([val, u1] : List Value).toArray w'
        rw [e2] at e1
        cases e1
    rcases hcase with ⟨rfl, hs⟩ | ⟨hne, rfl, hown⟩
    · have hl0 : l.length = 0 := by rw [← hkl]; rfl
      rw [if_pos hl0] at hx
      simp only [Option.some.injEq, Prod.mk.injEq] at hx
      obtain ⟨rfl, rfl⟩ := hx
      have hsk : sortKeys s (.func 58 []) h' = some ((), h') := by
        simp only [sortKeys, sortX, if_true, sortC]
        rw [if_pos (by rcases hs with rfl | rfl <;> rfl)]
      refine (run57 h' hsk).mono fun e w2 he => ?_
      obtain ⟨ρ2, v2, j1, j2, j3, rfl, j5⟩ := he
      refine ⟨⟨_, rfl⟩, ρ2, g1.trans j1, rel_forget j2 (fun i => ?_) (fun i hi => ?_), g3.trans j3, ?_⟩
      · simp only [deads]
        rcases Nat.lt_or_ge i h.next with hi | hi
        · have : Nat.blt i h.next = true := blt_t (by omega)
          rw [this, cond_true, hold i (by omega), ← hh]
          exact .inl rfl
        · have : Nat.blt i h.next = false := blt_f (by omega)
          rw [this, cond_false]
          rcases Nat.lt_or_ge i (h.next + 3) with h3 | h3
          · have : Nat.blt i (h.next + 3) = true := blt_t (by omega)
            rw [this, cond_true]
            exact .inr rfl
          · have : Nat.blt i (h.next + 3) = false := blt_f (by omega)
            rw [this, cond_false]
            exact .inl (hfr i (by omega)).symm
      · have hi' : h.next + 3 ≤ i := hi
        simp only [deads]
        rw [blt_f (by omega), show Nat.blt i (h.next + 3) = false from blt_f (by omega)]
        rfl
      · have hv := R_mono j1 _ _ g5
        have : R ρ2 (.slice (.lp true [] 0) 0 0 false) val := by
          rcases hs with rfl | rfl
          · obtain ⟨p', c', q1, q2, q3, q4, q5, q6, q7, q8⟩ := hv
            exact ⟨p', c', q1, q2, q3, q4, q5, .inl rfl, fun h => absurd rfl h, fun _ _ _ h => by cases h⟩
          · exact hv
        exact this
    · have hl0 : ¬ l.length = 0 := fun e => hne (List.eq_nil_of_length_eq_zero (by rw [hkl, e]))
      rw [if_neg hl0] at hx
      simp only [Option.some.injEq, Prod.mk.injEq] at hx
      obtain ⟨rfl, rfl⟩ := hx
      refine (run57 _ (sort_own hown hne (by omega) hpk)).mono fun e w2 he => ?_
      obtain ⟨ρ2, v2, j1, j2, j3, rfl, j5⟩ := he
      have heq : sortB cmpK ks = sortB cmpK (l.map (·.1)) := sorted_unique cmpK_to.ord ((sortB_perm.trans hperm).trans sortB_perm.symm) (sortB_sorted cmpK_to.ord hpk) (sortB_sorted cmpK_to.ord hpw)
      refine ⟨⟨_, rfl⟩, ρ2, g1.trans j1, rel_forget j2 (fun i => ?_) (fun i hi => ?_), g3.trans j3, ?_⟩
      · simp only [deads, H.new, H.put]
        rcases Nat.lt_or_ge i h.next with hi | hi
        · rw [blt_t (by omega), cond_true, beq_ne (show i ≠ h.next + 5 by omega), cond_false, show Nat.blt i h.next = true from blt_t (by omega), cond_true, beq_ne (show i ≠ sl.length + 5 by omega), cond_false, hold i (by omega), ← hh]
          exact .inl rfl
        · by_cases h5 : i = h.next + 5
          · subst h5
            rw [show Nat.blt (h.next + 5) (h.next + 5 + 1) = true from blt_t (by omega), cond_true, show Nat.beq (h.next + 5) (h.next + 5) = true by simp, cond_true, hnx, show Nat.beq (sl.length + 5) (sl.length + 5) = true by simp, cond_true, heq]
            exact .inl rfl
          · rcases Nat.lt_or_ge i (h.next + 5) with h6 | h6
            · rw [blt_t (by omega), cond_true, beq_ne h5, cond_false, show Nat.blt i h.next = false from blt_f (by omega), cond_false, show Nat.blt i (h.next + 5) = true from blt_t (by omega), cond_true]
              exact .inr rfl
            · rw [blt_f (by omega), cond_false]
              rcases Nat.lt_or_ge i (h.next + 5 + 1 + 3 * l.length) with h7 | h7
              · rw [show Nat.blt i (h.next + 5 + 1 + 3 * l.length) = true from blt_t (by omega), cond_true]
                exact .inr rfl
              · rw [show Nat.blt i (h.next + 5 + 1 + 3 * l.length) = false from blt_f (by omega), cond_false, beq_ne (show i ≠ sl.length + 5 by omega), cond_false, hfr i (by omega)]
                exact .inl rfl
      · have hi' : h.next + 5 + 1 + 3 * l.length ≤ i := hi
        simp only [deads, H.new]
        rw [blt_f (by omega), cond_false, show Nat.blt i (h.next + 5 + 1 + 3 * l.length) = false from blt_f (by omega)]
        rfl
      · have hv := R_mono j1 _ _ g5
        rw [hkl, ← hnx] at hv
        exact hv
  · obtain ⟨val, rfl, ρ', j1, j2, j3, j4⟩ := he
    exact ⟨ρ', val, j1, j2, j3, rfl, j4⟩
noncomputable def keysIt.e : Entry := Entry.none
theorem keysIt.ok : EntryOK Tryz.prog 111 keysIt.e := Entry.none_ok _ _
noncomputable def maps_Keys_map_api_Key_api_Fact_api_Key_api_Fact.tb : Table := tab [] [(111, keysIt.e)] Table.nil
theorem maps_Keys_map_api_Key_api_Fact_api_Key_api_Fact.tbok : TabOK Tryz.prog (maps_Keys_map_api_Key_api_Fact_api_Key_api_Fact.tb) := TabOK.tab (TabOK.nil Tryz.prog) (all_nil _) (all_cons keysIt.ok (all_nil _))
noncomputable def maps_Keys_map_api_Key_api_Fact_api_Key_api_Fact (a0 : Option Nat) (h : H) : Option ((V) × H) :=
(let h1 : H := H.new h [.map a0] 1
(some ((.func 111 [.hp h.next 1 0] : V), h1)))
def maps_Keys_map_api_Key_api_Fact_api_Key_api_Fact.A : Ann := { lits := [], conds := [], loops := [], regs := [] }
theorem maps_Keys_map_api_Key_api_Fact_api_Key_api_Fact.eq : ∀ (x : TT [.leaf .map]) (h : H), evalFn Tryz.prog (maps_Keys_map_api_Key_api_Fact_api_Key_api_Fact.tb) maps_Keys_map_api_Key_api_Fact_api_Key_api_Fact.A Tryz.f90 (.one (.leaf .dyn)) (TT.un [.leaf .map] x) h = maps_Keys_map_api_Key_api_Fact_api_Key_api_Fact x h := by
  intro x h
  kernel_rfl
noncomputable def maps_Keys_map_api_Key_api_Fact_api_Key_api_Fact.e : Entry := mkX [.leaf .map] (.one (.leaf .dyn)) fun x h => maps_Keys_map_api_Key_api_Fact_api_Key_api_Fact x h
theorem maps_Keys_map_api_Key_api_Fact_api_Key_api_Fact.ok : EntryOK Tryz.prog 90 (maps_Keys_map_api_Key_api_Fact_api_Key_api_Fact.e) := mkX_ok (maps_Keys_map_api_Key_api_Fact_api_Key_api_Fact.tbok) Tryz.mixed Tryz.func90 (by kernel_rfl) (maps_Keys_map_api_Key_api_Fact_api_Key_api_Fact.eq)
noncomputable def arrival_read.tb : Table := tab [(54, arrival_correctsP.e), (55, arrival_targetP.e), (67, arrival_setP.e), (89, sortedKeys.e), (90, maps_Keys_map_api_Key_api_Fact_api_Key_api_Fact.e)] [(58, fact_KeysP.e)] Table.nil
theorem arrival_read.tbok : TabOK Tryz.prog (arrival_read.tb) := TabOK.tab (TabOK.nil Tryz.prog) (all_cons arrival_correctsP.ok (all_cons arrival_targetP.ok (all_cons arrival_setP.ok (all_cons sortedKeys.ok (all_cons maps_Keys_map_api_Key_api_Fact_api_Key_api_Fact.ok (all_nil _)))))) (all_cons fact_KeysP.ok (all_nil _))
noncomputable def arrival_read.loop1 (h5 : H) (r7 : List Fct) : (Int) × H → Option (Stp ((Int) × H) (Flow (Unit) ((Option Nat × Option Nat × SV × SV)) × H)) := fun (y9, h10) =>
(bif (decide (y9 < ((r7.length : Nat) : Int))) then (guardO (0 ≤ y9 ∧ y9 < ((r7.length : Nat) : Int)) ((rdT (.agg FS) h10 (V.add ((rowSV true FC r7).a) (Int.toNat y9 * 6))).bind fun (x11_0, x11_1, x11_2, x11_3, x11_4, x11_5) =>
(let h12 : H := H.new h10 [.int .i64 0, .int .i64 0, .int .i64 0, .int .i64 0, .slice .nil 0 0 false, .slice .nil 0 0 false] 6
((H.wrs h12 (.hp h10.next 6 0) [.int .i64 x11_0, .int .i64 x11_1, .int .i64 x11_2, .int .i64 x11_3, .slice x11_4.a x11_4.len x11_4.cap x11_4.tail, .slice x11_5.a x11_5.len x11_5.cap x11_5.tail]).bind fun h13 =>
((rdT (.agg KC) h13 (.hp h10.next 6 0)).bind fun (x14_0, x14_1, x14_2) =>
((rdT (.agg FS) h13 (.hp h10.next 6 0)).bind fun (x15_0, x15_1, x15_2, x15_3, x15_4, x15_5) =>
((entG h13 h5.next (.agg KC) (.leaf .slice) ⟨.nil, 0, 0, false⟩ (x14_0, x14_1, x14_2)).bind fun ((x16, i17), h18) =>
((appendS h18 none 6 80 x16 [.int .i64 x15_0, .int .i64 x15_1, .int .i64 x15_2, .int .i64 x15_3, .slice x15_4.a x15_4.len x15_4.cap x15_4.tail, .slice x15_5.a x15_5.len x15_5.cap x15_5.tail] 1).bind fun (s21, h20) =>
((atG h20 h5.next (.agg KC) (.leaf .slice) i17 s21).bind fun h23 =>
(some (.more ((IntKind.wrap .i64 (y9 + 1)), h23)))))))))))) else (some (.done (.ex0 (), h10))))
noncomputable def arrival_read.loop2 (h3 : H) (h5 : H) (r29 : SV) : (Int) × H → Option (Stp ((Int) × H) (Flow (Unit) ((Option Nat × Option Nat × SV × SV)) × H)) := fun (y31, h32) =>
(bif (decide (y31 < ((r29.len : Nat) : Int))) then (guardO (0 ≤ y31 ∧ y31 < ((r29.len : Nat) : Int)) ((rdT (.agg KC) h32 (V.add r29.a (Int.toNat y31 * 3))).bind fun (x33_0, x33_1, x33_2) =>
(let h34 : H := H.new h32 [.int .i64 0, .int .i64 0, .int .i64 0] 3
((H.wrs h34 (.hp h32.next 3 0) [.int .i64 x33_0, .int .i64 x33_1, .int .i64 x33_2]).bind fun h35 =>
((rdT (.agg KC) h35 (.hp h32.next 3 0)).bind fun (x36_0, x36_1, x36_2) =>
((lookG h35 h5.next (.agg KC) (.leaf .slice) ⟨.nil, 0, 0, false⟩ (x36_0, x36_1, x36_2)).bind fun (x37, b38) =>
(bif (decide ((1 : Int) < ((x37.len : Nat) : Int))) then ((rdT (.leaf .slice) h35 (.hp h3.next 4 2)).bind fun x39 =>
((rdT (.agg KC) h35 (.hp h32.next 3 0)).bind fun (x40_0, x40_1, x40_2) =>
((appendS h35 none 3 24 x39 [.int .i64 x40_0, .int .i64 x40_1, .int .i64 x40_2] 1).bind fun (s43, h42) =>
((H.wrs h42 (.hp h3.next 4 2) [.slice s43.a s43.len s43.cap s43.tail]).bind fun h45 =>
(some (.more ((IntKind.wrap .i64 (y31 + 1)), h45))))))) else (let h46 : H := H.reserve h35 0
((rdT (.leaf .map) h46 (.hp h3.next 4 0)).bind fun x47 =>
((rdT (.agg KC) h46 (.hp h32.next 3 0)).bind fun (x48_0, x48_1, x48_2) =>
((rdT (.agg KC) h46 (.hp h32.next 3 0)).bind fun (x49_0, x49_1, x49_2) =>
((lookG h46 h5.next (.agg KC) (.leaf .slice) ⟨.nil, 0, 0, false⟩ (x49_0, x49_1, x49_2)).bind fun (x50, b51) =>
(guardO (0 ≤ (0 : Int) ∧ 0 < ((x50.len : Nat) : Int)) ((rdT (.agg FS) h46 (V.add x50.a 0)).bind fun (x52_0, x52_1, x52_2, x52_3, x52_4, x52_5) =>
((x47 : Option Nat).bind fun r53 => ((setG h46 r53 (.agg KC) (.agg FS) (x48_0, x48_1, x48_2) (x52_0, x52_1, x52_2, x52_3, x52_4, x52_5)).bind fun h54 =>
(some (.more ((IntKind.wrap .i64 (y31 + 1)), h54))))))))))))))))))) else (some (.done (.ex0 (), h32))))
noncomputable def arrival_read.loop3 (h3 : H) (r29 : SV) : (Int) × H → Option (Stp ((Int) × H) (Flow (Unit) ((Option Nat × Option Nat × SV × SV)) × H)) := fun (y58, h59) =>
(bif (decide (y58 < ((r29.len : Nat) : Int))) then (guardO (0 ≤ y58 ∧ y58 < ((r29.len : Nat) : Int)) ((rdT (.agg KC) h59 (V.add r29.a (Int.toNat y58 * 3))).bind fun (x60_0, x60_1, x60_2) =>
(let h61 : H := H.new h59 [.int .i64 0, .int .i64 0, .int .i64 0] 3
((H.wrs h61 (.hp h59.next 3 0) [.int .i64 x60_0, .int .i64 x60_1, .int .i64 x60_2]).bind fun h62 =>
((rdT (.leaf .map) h62 (.hp h3.next 4 0)).bind fun x63 =>
((rdT (.agg KC) h62 (.hp h59.next 3 0)).bind fun (x64_0, x64_1, x64_2) =>
((x63 : Option Nat).bind fun r65 => ((lookG h62 r65 (.agg KC) (.agg FS) (0, 0, 0, 0, ⟨.nil, 0, 0, false⟩, ⟨.nil, 0, 0, false⟩) (x64_0, x64_1, x64_2)).bind fun ((x66_0, x66_1, x66_2, x66_3, x66_4, x66_5), b67) =>
(let h68 : H := H.new h62 [.int .i64 0, .int .i64 0, .int .i64 0, .int .i64 0, .slice .nil 0 0 false, .slice .nil 0 0 false] 6
((H.wrs h68 (.hp h62.next 6 0) [.int .i64 x66_0, .int .i64 x66_1, .int .i64 x66_2, .int .i64 x66_3, .slice x66_4.a x66_4.len x66_4.cap x66_4.tail, .slice x66_5.a x66_5.len x66_5.cap x66_5.tail]).bind fun h69 =>
(((bif !(!b67) then ((rdT (.agg FS) h69 (.hp h62.next 6 0)).bind fun (x70_0, x70_1, x70_2, x70_3, x70_4, x70_5) =>
((rdRow true h69 [.int .i64] x70_4).bind fun s72 =>
((rdRow true h69 [.str] x70_5).bind fun s73 =>
((arrival_correctsP (x70_0, x70_1, x70_2, x70_3, s72, s73)).bind fun r71 =>
(some ((!r71), h69)))))) else (some (true, h69)))).bind fun (y74, h75) =>
(bif y74 then (some (.more ((IntKind.wrap .i64 (y58 + 1)), h75))) else ((rdT (.agg FS) h75 (.hp h62.next 6 0)).bind fun (x76_0, x76_1, x76_2, x76_3, x76_4, x76_5) =>
((rdRow true h75 [.int .i64] x76_4).bind fun s79 =>
((rdRow true h75 [.str] x76_5).bind fun s80 =>
((arrival_targetP (x76_0, x76_1, x76_2, x76_3, s79, s80)).bind fun ((r77_0, r77_1, r77_2, r77_3, r77_4, r77_5), r78) =>
(let h81 : H := H.new h75 [.int .i64 0, .int .i64 0, .int .i64 0, .int .i64 0, .slice .nil 0 0 false, .slice .nil 0 0 false] 6
((H.wrs h81 (.hp h75.next 6 0) [.int .i64 r77_0, .int .i64 r77_1, .int .i64 r77_2, .int .i64 r77_3, .slice ((rowSV true [.int .i64] r77_4).a) r77_4.length r77_4.length true, .slice ((rowSV true [.str] r77_5).a) r77_5.length r77_5.length true]).bind fun h82 =>
((rdT (.leaf .map) h82 (.hp h3.next 4 0)).bind fun x83 =>
((rdT (.agg KC) h82 (.hp h75.next 6 0)).bind fun (x84_0, x84_1, x84_2) =>
((x83 : Option Nat).bind fun r85 => ((lookG h82 r85 (.agg KC) (.agg FS) (0, 0, 0, 0, ⟨.nil, 0, 0, false⟩, ⟨.nil, 0, 0, false⟩) (x84_0, x84_1, x84_2)).bind fun ((x86_0, x86_1, x86_2, x86_3, x86_4, x86_5), b87) =>
(let h88 : H := H.new h82 [.int .i64 0, .int .i64 0, .int .i64 0, .int .i64 0, .slice .nil 0 0 false, .slice .nil 0 0 false] 6
((H.wrs h88 (.hp h82.next 6 0) [.int .i64 x86_0, .int .i64 x86_1, .int .i64 x86_2, .int .i64 x86_3, .slice x86_4.a x86_4.len x86_4.cap x86_4.tail, .slice x86_5.a x86_5.len x86_5.cap x86_5.tail]).bind fun h89 =>
(((bif !(!r78) then (bif b87 then ((rdT (.agg FS) h89 (.hp h82.next 6 0)).bind fun (x90_0, x90_1, x90_2, x90_3, x90_4, x90_5) =>
((rdRow true h89 [.int .i64] x90_4).bind fun s92 =>
((rdRow true h89 [.str] x90_5).bind fun s93 =>
((arrival_correctsP (x90_0, x90_1, x90_2, x90_3, s92, s93)).bind fun r91 =>
(some (r91, h89)))))) else (some (false, h89))) else (some (true, h89)))).bind fun (y94, h95) =>
(bif y94 then ((rdT (.leaf .slice) h95 (.hp h3.next 4 3)).bind fun x96 =>
((rdT (.agg KC) h95 (.hp h59.next 3 0)).bind fun (x97_0, x97_1, x97_2) =>
((appendS h95 none 3 24 x96 [.int .i64 x97_0, .int .i64 x97_1, .int .i64 x97_2] 1).bind fun (s100, h99) =>
((H.wrs h99 (.hp h3.next 4 3) [.slice s100.a s100.len s100.cap s100.tail]).bind fun h102 =>
(some (.more ((IntKind.wrap .i64 (y58 + 1)), h102))))))) else ((rdT (.leaf .map) h95 (.hp h3.next 4 1)).bind fun x103 =>
((rdT (.agg KC) h95 (.hp h75.next 6 0)).bind fun (x104_0, x104_1, x104_2) =>
((rdT (.agg FS) h95 (.hp h62.next 6 0)).bind fun (x105_0, x105_1, x105_2, x105_3, x105_4, x105_5) =>
((x103 : Option Nat).bind fun r106 => ((entG h95 r106 (.agg KC) (.leaf .slice) ⟨.nil, 0, 0, false⟩ (x104_0, x104_1, x104_2)).bind fun ((x107, i108), h109) =>
((appendS h109 none 6 80 x107 [.int .i64 x105_0, .int .i64 x105_1, .int .i64 x105_2, .int .i64 x105_3, .slice x105_4.a x105_4.len x105_4.cap x105_4.tail, .slice x105_5.a x105_5.len x105_5.cap x105_5.tail] 1).bind fun (s112, h111) =>
((x103 : Option Nat).bind fun r114 => ((atG h111 r114 (.agg KC) (.leaf .slice) i108 s112).bind fun h115 =>
(some (.more ((IntKind.wrap .i64 (y58 + 1)), h115))))))))))))))))))))))))))))))))))))) else (some (.done (.ex0 (), h59))))
noncomputable def arrival_read (a0 : SV) (h : H) : Option (((Option Nat × Option Nat × SV × SV)) × H) :=
(let h1 : H := H.new h [.map none, .map none, .slice .nil 0 0 false, .slice .nil 0 0 false] 4
(let h2 : H := H.newS h1 (.gmap [])
(let h3 : H := H.newS h2 (.gmap [])
(let h4 : H := H.new h3 [.map none, .map none, .slice .nil 0 0 false, .slice .nil 0 0 false] 4
((H.wrs h4 (.hp h3.next 4 0) [.map (some h1.next), .map (some h2.next), .slice .nil 0 0 false, .slice .nil 0 0 false]).bind fun h5 =>
(let h6 : H := H.newS h5 (.gmap [])
((rdRow true h6 FC a0).bind fun s8 =>
((arrival_setP s8).bind fun r7 =>
((iter FUEL (arrival_read.loop1 h5 r7) (0, h6)).bind fun (fl25, h24) => match fl25 with
| .next _ => none
| .ret rr26 => (some (rr26, h24))
| .ex0 _ =>
((maps_Keys_map_api_Key_api_Fact_api_Key_api_Fact (some h5.next) h24).bind fun (r27, h28) =>
((sortedKeys r27 (.func 58 [] : V) h28).bind fun (r29, h30) =>
((iter FUEL (arrival_read.loop2 h3 h5 r29) (0, h30)).bind fun (fl56, h55) => match fl56 with
| .next _ => none
| .ret rr57 => (some (rr57, h55))
| .ex0 _ =>
((iter FUEL (arrival_read.loop3 h3 r29) (0, h55)).bind fun (fl117, h116) => match fl117 with
| .next _ => none
| .ret rr118 => (some (rr118, h116))
| .ex0 _ =>
((rdT (.agg [.map, .map, .slice, .slice]) h116 (.hp h3.next 4 0)).bind fun (x119_0, x119_1, x119_2, x119_3) =>
((H.wrs h116 (.hp h.next 4 0) [.map x119_0, .map x119_1, .slice x119_2.a x119_2.len x119_2.cap x119_2.tail, .slice x119_3.a x119_3.len x119_3.cap x119_3.tail]).bind fun h120 =>
((rdT (.agg [.map, .map, .slice, .slice]) h120 (.hp h.next 4 0 : V)).bind fun (x121_0, x121_1, x121_2, x121_3) =>
(some ((x121_0, x121_1, x121_2, x121_3), h120)))))
| .ex1 _ => none)
| .ex1 _ => none)))
| .ex1 _ => none)))))))))
def arrival_read.A : Ann := { lits := [], conds := [], loops := [(4, [25], [.leaf (.int .i64)], [], [], some 0, none), (10, [44], [.leaf (.int .i64)], [], [], some 2, none), (17, [70], [.leaf (.int .i64)], [], [], some 4, none)], regs := [(20, [87], [.leaf .bool]), (23, [109], [.leaf .bool])] }
theorem arrival_read.eq : ∀ (x : TT [.leaf .slice]) (h : H), evalFn Tryz.prog (arrival_read.tb) arrival_read.A Tryz.f53 (.one (.agg [.map, .map, .slice, .slice])) (TT.un [.leaf .slice] x) h = arrival_read x h := by
  intro x h
  kernel_rfl
noncomputable def arrival_read.e : Entry := mkX [.leaf .slice] (.one (.agg [.map, .map, .slice, .slice])) fun x h => arrival_read x h
theorem arrival_read.ok : EntryOK Tryz.prog 53 (arrival_read.e) := mkX_ok (arrival_read.tbok) Tryz.mixed Tryz.func53 (by kernel_rfl) (arrival_read.eq)
noncomputable def arrival_Merge.tb : Table := tab [(52, arrival_checkP.e), (53, arrival_read.e), (54, arrival_correctsP.e), (55, arrival_targetP.e), (56, sortFacts.e), (57, sortKeys.e)] [(33, fact_CompareP.e), (58, fact_KeysP.e)] Table.nil
theorem arrival_Merge.tbok : TabOK Tryz.prog (arrival_Merge.tb) := TabOK.tab (TabOK.nil Tryz.prog) (all_cons arrival_checkP.ok (all_cons arrival_read.ok (all_cons arrival_correctsP.ok (all_cons arrival_targetP.ok (all_cons sortFacts.ok (all_cons sortKeys.ok (all_nil _))))))) (all_cons fact_CompareP.ok (all_cons fact_KeysP.ok (all_nil _)))
noncomputable def arrival_Merge.loop1 (h7 : H) (h9 : H) (h13 : H) : (Unit) × H → Option (Stp ((Unit) × H) (Flow (Unit) ((SV × SV × SV × SV) × Int) × H)) := fun (_, h18) =>
((curG h18 (.hp h13.next 0 0 : V) (.agg KC) (.agg FS)).bind fun ((x19_0, x19_1, x19_2), (x20_0, x20_1, x20_2, x20_3, x20_4, x20_5)) =>
(let h21 : H := H.new h18 [.int .i64 0, .int .i64 0, .int .i64 0] 3
(let h22 : H := H.new h21 [.int .i64 0, .int .i64 0, .int .i64 0, .int .i64 0, .slice .nil 0 0 false, .slice .nil 0 0 false] 6
((H.wrs h22 (.hp h18.next 3 0) [.int .i64 x19_0, .int .i64 x19_1, .int .i64 x19_2]).bind fun h23 =>
((H.wrs h23 (.hp h21.next 6 0) [.int .i64 x20_0, .int .i64 x20_1, .int .i64 x20_2, .int .i64 x20_3, .slice x20_4.a x20_4.len x20_4.cap x20_4.tail, .slice x20_5.a x20_5.len x20_5.cap x20_5.tail]).bind fun h24 =>
((rdT (.agg FS) h24 (.hp h21.next 6 0)).bind fun (x25_0, x25_1, x25_2, x25_3, x25_4, x25_5) =>
((rdRow true h24 [.int .i64] x25_4).bind fun s27 =>
((rdRow true h24 [.str] x25_5).bind fun s28 =>
((arrival_correctsP (x25_0, x25_1, x25_2, x25_3, s27, s28)).bind fun r26 =>
(bif r26 then (some (.more ((), h24))) else ((rdT (.leaf .map) h24 (.hp h7.next 4 1)).bind fun x29 =>
((rdT (.agg KC) h24 (.hp h18.next 3 0)).bind fun (x30_0, x30_1, x30_2) =>
((x29 : Option Nat).bind fun r31 => ((lookG h24 r31 (.agg KC) (.leaf .slice) ⟨.nil, 0, 0, false⟩ (x30_0, x30_1, x30_2)).bind fun (x32, b33) =>
(bif (decide (((x32.len : Nat) : Int) = 0)) then ((rdT (.leaf .slice) h24 (.hp h9.next 4 0)).bind fun x34 =>
((rdT (.agg FS) h24 (.hp h21.next 6 0)).bind fun (x35_0, x35_1, x35_2, x35_3, x35_4, x35_5) =>
((appendS h24 none 6 80 x34 [.int .i64 x35_0, .int .i64 x35_1, .int .i64 x35_2, .int .i64 x35_3, .slice x35_4.a x35_4.len x35_4.cap x35_4.tail, .slice x35_5.a x35_5.len x35_5.cap x35_5.tail] 1).bind fun (s38, h37) =>
((H.wrs h37 (.hp h9.next 4 0) [.slice s38.a s38.len s38.cap s38.tail]).bind fun h40 =>
(some (.more ((), h40))))))) else (guardO (0 ≤ (IntKind.wrap .i64 (((x32.len : Nat) : Int) - 1)) ∧ (IntKind.wrap .i64 (((x32.len : Nat) : Int) - 1)) < ((x32.len : Nat) : Int)) ((rdT (.agg FS) h24 (V.add x32.a (Int.toNat (IntKind.wrap .i64 (((x32.len : Nat) : Int) - 1)) * 6))).bind fun (x41_0, x41_1, x41_2, x41_3, x41_4, x41_5) =>
(let h42 : H := H.new h24 [.int .i64 0, .int .i64 0, .int .i64 0, .int .i64 0, .slice .nil 0 0 false, .slice .nil 0 0 false] 6
((H.wrs h42 (.hp h24.next 6 0) [.int .i64 x41_0, .int .i64 x41_1, .int .i64 x41_2, .int .i64 x41_3, .slice x41_4.a x41_4.len x41_4.cap x41_4.tail, .slice x41_5.a x41_5.len x41_5.cap x41_5.tail]).bind fun h43 =>
((rdT (.leaf (.int .i64)) h43 (.hp h24.next 6 3)).bind fun x44 =>
((bif (decide (x44 = 90)) then ((rdT (.agg FS) h43 (.hp h24.next 6 0)).bind fun (x45_0, x45_1, x45_2, x45_3, x45_4, x45_5) =>
((rdRow true h43 [.int .i64] x45_4).bind fun s48 =>
((rdRow true h43 [.str] x45_5).bind fun s49 =>
((arrival_targetP (x45_0, x45_1, x45_2, x45_3, s48, s49)).bind fun ((r46_0, r46_1, r46_2, r46_3, r46_4, r46_5), r47) =>
(let h50 : H := H.new h43 [.int .i64 0, .int .i64 0, .int .i64 0, .int .i64 0, .slice .nil 0 0 false, .slice .nil 0 0 false] 6
((H.wrs h50 (.hp h43.next 6 0) [.int .i64 r46_0, .int .i64 r46_1, .int .i64 r46_2, .int .i64 r46_3, .slice ((rowSV true [.int .i64] r46_4).a) r46_4.length r46_4.length true, .slice ((rowSV true [.str] r46_5).a) r46_5.length r46_5.length true]).bind fun h51 =>
((rdT (.leaf .slice) h51 (.hp h9.next 4 0)).bind fun x52 =>
((rdT (.agg FS) h51 (.hp h43.next 6 0)).bind fun (x53_0, x53_1, x53_2, x53_3, x53_4, x53_5) =>
((appendS h51 none 6 80 x52 [.int .i64 x53_0, .int .i64 x53_1, .int .i64 x53_2, .int .i64 x53_3, .slice x53_4.a x53_4.len x53_4.cap x53_4.tail, .slice x53_5.a x53_5.len x53_5.cap x53_5.tail] 1).bind fun (s56, h55) =>
((H.wrs h55 (.hp h9.next 4 0) [.slice s56.a s56.len s56.cap s56.tail]).bind fun h58 =>
(some (.next (), h58)))))))))))) else (some (.next (), h43)) : Option (Flow (Unit) ((SV × SV × SV × SV) × Int) × H)).bind fun (fl60, h59) => match fl60 with
| .next _ =>
(some (.more ((), h59)))
| .ret rr61 => (some (.done (.ret rr61, h59)))
| .ex0 _ => none
| .ex1 _ => none)))))))))))))))))))))
noncomputable def arrival_Merge.loop1e : (Unit) × H → Option (Stp ((Unit) × H) (Flow (Unit) ((SV × SV × SV × SV) × Int) × H)) := fun (_, h18) =>
(some (.done (.ex0 (), h18)))
noncomputable def arrival_Merge.loop2 (h9 : H) (x73 : SV) : (Int) × H → Option (Stp ((Int) × H) (Flow (Unit) ((SV × SV × SV × SV) × Int) × H)) := fun (y83, h84) =>
(bif (decide (y83 < ((x73.len : Nat) : Int))) then (guardO (0 ≤ y83 ∧ y83 < ((x73.len : Nat) : Int)) ((rdT (.agg FS) h84 (V.add x73.a (Int.toNat y83 * 6))).bind fun (x85_0, x85_1, x85_2, x85_3, x85_4, x85_5) =>
(let h86 : H := H.new h84 [.int .i64 0, .int .i64 0, .int .i64 0, .int .i64 0, .slice .nil 0 0 false, .slice .nil 0 0 false] 6
((H.wrs h86 (.hp h84.next 6 0) [.int .i64 x85_0, .int .i64 x85_1, .int .i64 x85_2, .int .i64 x85_3, .slice x85_4.a x85_4.len x85_4.cap x85_4.tail, .slice x85_5.a x85_5.len x85_5.cap x85_5.tail]).bind fun h87 =>
((rdT (.leaf .slice) h87 (.hp h9.next 4 2)).bind fun x88 =>
((rdT (.agg KC) h87 (.hp h84.next 6 0)).bind fun (x89_0, x89_1, x89_2) =>
((appendS h87 none 3 24 x88 [.int .i64 x89_0, .int .i64 x89_1, .int .i64 x89_2] 1).bind fun (s92, h91) =>
((H.wrs h91 (.hp h9.next 4 2) [.slice s92.a s92.len s92.cap s92.tail]).bind fun h94 =>
(some (.more ((IntKind.wrap .i64 (y83 + 1)), h94))))))))))) else (some (.done (.ex0 (), h84))))
noncomputable def arrival_Merge.loop3 (h7 : H) (h9 : H) (h66 : H) : (Unit) × H → Option (Stp ((Unit) × H) (Flow (Unit) ((SV × SV × SV × SV) × Int) × H)) := fun (_, h71) =>
((curG h71 (.hp h66.next 0 0 : V) (.agg KC) (.leaf .slice)).bind fun ((x72_0, x72_1, x72_2), x73) =>
(let h74 : H := H.new h71 [.int .i64 0, .int .i64 0, .int .i64 0] 3
((H.wrs h74 (.hp h71.next 3 0) [.int .i64 x72_0, .int .i64 x72_1, .int .i64 x72_2]).bind fun h75 =>
((rdT (.leaf .map) h75 (.hp h7.next 4 0)).bind fun x76 =>
((rdT (.agg KC) h75 (.hp h71.next 3 0)).bind fun (x77_0, x77_1, x77_2) =>
((x76 : Option Nat).bind fun r78 => ((lookG h75 r78 (.agg KC) (.agg FS) (0, 0, 0, 0, ⟨.nil, 0, 0, false⟩, ⟨.nil, 0, 0, false⟩) (x77_0, x77_1, x77_2)).bind fun ((x79_0, x79_1, x79_2, x79_3, x79_4, x79_5), b80) =>
(let h81 : H := H.new h75 [.int .i64 0, .int .i64 0, .int .i64 0, .int .i64 0, .slice .nil 0 0 false, .slice .nil 0 0 false] 6
((H.wrs h81 (.hp h75.next 6 0) [.int .i64 x79_0, .int .i64 x79_1, .int .i64 x79_2, .int .i64 x79_3, .slice x79_4.a x79_4.len x79_4.cap x79_4.tail, .slice x79_5.a x79_5.len x79_5.cap x79_5.tail]).bind fun h82 =>
(bif b80 then (some (.more ((), h82))) else ((iter FUEL (arrival_Merge.loop2 h9 x73) (0, h82)).bind fun (fl96, h95) => match fl96 with
| .next _ => none
| .ret rr97 => (some (.done (.ret rr97, h95)))
| .ex0 _ =>
(some (.more ((), h95)))
| .ex1 _ => none)))))))))))
noncomputable def arrival_Merge.loop3e : (Unit) × H → Option (Stp ((Unit) × H) (Flow (Unit) ((SV × SV × SV × SV) × Int) × H)) := fun (_, h71) =>
(some (.done (.ex0 (), h71)))
noncomputable def arrival_Merge.K {R : Type} (a0 : SV) (h : H) (kont : ((SV × SV × SV × SV) × Int) → H → Option R) : Option R :=
(let h1 : H := H.new h [.slice .nil 0 0 false, .slice .nil 0 0 false, .slice .nil 0 0 false, .slice .nil 0 0 false] 4
((rdRow true h1 FC a0).bind fun s3 =>
((arrival_checkP s3).bind fun r2 =>
(bif (!(decide (r2 = 0))) then ((H.wrs h1 (.hp h.next 4 0) [.slice .nil 0 0 false, .slice .nil 0 0 false, .slice .nil 0 0 false, .slice .nil 0 0 false]).bind fun h4 =>
((rdT (.agg [.slice, .slice, .slice, .slice]) h4 (.hp h.next 4 0 : V)).bind fun (x5_0, x5_1, x5_2, x5_3) =>
(kont ((x5_0, x5_1, x5_2, x5_3), r2) h4))) else ((arrival_read a0 h1).bind fun ((r6_0, r6_1, r6_2, r6_3), h7) =>
(let h8 : H := H.new h7 [.map none, .map none, .slice .nil 0 0 false, .slice .nil 0 0 false] 4
((H.wrs h8 (.hp h7.next 4 0) [.map r6_0, .map r6_1, .slice r6_2.a r6_2.len r6_2.cap r6_2.tail, .slice r6_3.a r6_3.len r6_3.cap r6_3.tail]).bind fun h9 =>
((rdT (.leaf .slice) h9 (.hp h7.next 4 2)).bind fun x10 =>
((rdT (.leaf .slice) h9 (.hp h7.next 4 3)).bind fun x11 =>
(let h12 : H := H.new h9 [.slice .nil 0 0 false, .slice .nil 0 0 false, .slice .nil 0 0 false, .slice .nil 0 0 false] 4
((H.wrs h12 (.hp h9.next 4 0) [.slice .nil 0 0 false, .slice x10.a x10.len x10.cap x10.tail, .slice .nil 0 0 false, .slice x11.a x11.len x11.cap x11.tail]).bind fun h13 =>
((rdT (.leaf .map) h13 (.hp h7.next 4 0)).bind fun x14 =>
((x14 : Option Nat).bind fun r15 => ((H.gmap h13 r15 (.agg KC) (.agg FS)).bind fun l16 =>
(let h17 : H := H.newS h13 (.miter r15 l16.length [])
((iterAt h17 (.hp h13.next 0 0 : V)).bind fun p108 => agreeN p108.2.2 fun q109 =>
((mrounds p108.1 p108.2.1 p108.2.2 (arrival_Merge.loop1 h7 h9 h13) (arrival_Merge.loop1e) [] q109 ((), h17)).bind fun (fl63, h62) => match fl63 with
| .next _ => none
| .ret rr64 => (kont rr64 h62)
| .ex0 _ =>
((rdT (.leaf .slice) h62 (.hp h9.next 4 0)).bind fun x65 =>
((sortFacts x65 (.func 33 [] : V) h62).bind fun (_, h66) =>
((rdT (.leaf .map) h66 (.hp h7.next 4 1)).bind fun x67 =>
((x67 : Option Nat).bind fun r68 => ((H.gmap h66 r68 (.agg KC) (.leaf .slice)).bind fun l69 =>
(let h70 : H := H.newS h66 (.miter r68 l69.length [])
((iterAt h70 (.hp h66.next 0 0 : V)).bind fun p106 => agreeN p106.2.2 fun q107 =>
((mrounds p106.1 p106.2.1 p106.2.2 (arrival_Merge.loop3 h7 h9 h66) (arrival_Merge.loop3e) [] q107 ((), h70)).bind fun (fl99, h98) => match fl99 with
| .next _ => none
| .ret rr100 => (kont rr100 h98)
| .ex0 _ =>
((rdT (.leaf .slice) h98 (.hp h9.next 4 2)).bind fun x101 =>
((sortKeys x101 (.func 58 [] : V) h98).bind fun (_, h102) =>
((rdT (.agg [.slice, .slice, .slice, .slice]) h102 (.hp h9.next 4 0)).bind fun (x103_0, x103_1, x103_2, x103_3) =>
((H.wrs h102 (.hp h.next 4 0) [.slice x103_0.a x103_0.len x103_0.cap x103_0.tail, .slice x103_1.a x103_1.len x103_1.cap x103_1.tail, .slice x103_2.a x103_2.len x103_2.cap x103_2.tail, .slice x103_3.a x103_3.len x103_3.cap x103_3.tail]).bind fun h104 =>
((rdT (.agg [.slice, .slice, .slice, .slice]) h104 (.hp h.next 4 0 : V)).bind fun (x105_0, x105_1, x105_2, x105_3) =>
(kont ((x105_0, x105_1, x105_2, x105_3), 0) h104))))))
| .ex1 _ => none))))))))
| .ex1 _ => none)))))))))))))))))
def arrival_Merge.A : Ann := { lits := [], conds := [(63, [], [], none, none)], loops := [(7, [], [], [], [], some 0, none), (24, [96], [.leaf (.int .i64)], [], [], some 4, none), (19, [], [], [], [], some 2, none)], regs := [], ents := [(37, .agg KC, .agg FS), (83, .agg KC, .leaf .slice)] }
theorem arrival_Merge.eqK : ∀ {R : Type} (x : TT [.leaf .slice]) (h : H) (kont : ((SV × SV × SV × SV) × Int) → H → Option R), evalFnK Tryz.prog (arrival_Merge.tb) arrival_Merge.A Tryz.f12 (.many [.agg [.slice, .slice, .slice, .slice], .leaf (.int .i64)]) (TT.un [.leaf .slice] x) h kont = arrival_Merge.K x h kont := by
  intro R x h kont
  kernel_rfl
noncomputable def arrival_MergeP (a0 : (List Fct)) : Option (((List Fct) × (List Ky) × (List Ky) × (List Ky)) × Int) := arrival_Merge.K (rowSV false FC a0) H.empty (fun r h => rdRes false h (.many [.agg [.row FC, .row KC, .row KC, .row KC], .leaf (.int .i64)]) (Res.un (.many [.agg [.slice, .slice, .slice, .slice], .leaf (.int .i64)]) r))
theorem arrival_MergeP.eq : ∀ x : TT [.leaf (.row FC)], evalFnK Tryz.prog (arrival_Merge.tb) arrival_Merge.A Tryz.f12 (.many [.agg [.slice, .slice, .slice, .slice], .leaf (.int .i64)]) (TT.lo false [.leaf (.row FC)] x) H.empty (fun r h => rdRes false h (.many [.agg [.row FC, .row KC, .row KC, .row KC], .leaf (.int .i64)]) (Res.un (.many [.agg [.slice, .slice, .slice, .slice], .leaf (.int .i64)]) r)) = arrival_MergeP x := by
  intro x
  rw [show TT.lo false [.leaf (.row FC)] x = TT.un [.leaf .slice] ((rowSV false FC x)) from rfl, arrival_Merge.eqK]
  rfl
noncomputable def arrival_MergeP.e : Entry := mkP [.leaf (.row FC)] (.many [.agg [.row FC, .row KC, .row KC, .row KC], .leaf (.int .i64)]) fun x => arrival_MergeP x
theorem arrival_MergeP.ok : EntryOK Tryz.prog 12 (arrival_MergeP.e) := mkPK_ok (arrival_Merge.tbok) Tryz.mixed Tryz.func12 (by kernel_rfl) arrival_MergeP.eq
noncomputable def arrival_Trace.tb : Table := tab [(52, arrival_checkP.e), (53, arrival_read.e)] [] Table.nil
theorem arrival_Trace.tbok : TabOK Tryz.prog (arrival_Trace.tb) := TabOK.tab (TabOK.nil Tryz.prog) (all_cons arrival_checkP.ok (all_cons arrival_read.ok (all_nil _))) (all_nil _)
noncomputable def arrival_Trace.loop1 (x8 : SV) : (SV × Int) × H → Option (Stp ((SV × Int) × H) (Flow (SV) (SV × Int) × H)) := fun ((y10, y11), h12) =>
(bif (decide (y11 < ((x8.len : Nat) : Int))) then (guardO (0 ≤ y11 ∧ y11 < ((x8.len : Nat) : Int)) ((rdT (.agg FS) h12 (V.add x8.a (Int.toNat y11 * 6))).bind fun (x13_0, x13_1, x13_2, x13_3, x13_4, x13_5) =>
(let h14 : H := H.new h12 [.int .i64 0, .int .i64 0, .int .i64 0, .int .i64 0, .slice .nil 0 0 false, .slice .nil 0 0 false] 6
((H.wrs h14 (.hp h12.next 6 0) [.int .i64 x13_0, .int .i64 x13_1, .int .i64 x13_2, .int .i64 x13_3, .slice x13_4.a x13_4.len x13_4.cap x13_4.tail, .slice x13_5.a x13_5.len x13_5.cap x13_5.tail]).bind fun h15 =>
((rdT (.agg KC) h15 (.hp h12.next 6 0)).bind fun (x16_0, x16_1, x16_2) =>
((appendS h15 none 3 24 y10 [.int .i64 x16_0, .int .i64 x16_1, .int .i64 x16_2] 1).bind fun (s19, h18) =>
(some (.more ((s19, (IntKind.wrap .i64 (y11 + 1))), h18))))))))) else (some (.done (.ex0 y10, h12))))
noncomputable def arrival_Trace (a0 : SV) (a1 : Ky) (h : H) : Option ((SV × Int) × H) :=
(match a1 with
| (a1_0, a1_1, a1_2) =>
((rdRow true h FC a0).bind fun s2 =>
((arrival_checkP s2).bind fun r1 =>
(bif (!(decide (r1 = 0))) then (some ((⟨.nil, 0, 0, false⟩, r1), h)) else (let h3 : H := H.reserve h 0
((arrival_read a0 h3).bind fun ((r4_0, r4_1, r4_2, r4_3), h5) =>
((rdT (.agg KC) H.empty (.lp true ([.int .i64 a1_0, .int .i64 a1_1, .int .i64 a1_2]) 0)).bind fun (x6_0, x6_1, x6_2) =>
((r4_1 : Option Nat).bind fun r7 => ((lookG h5 r7 (.agg KC) (.leaf .slice) ⟨.nil, 0, 0, false⟩ (x6_0, x6_1, x6_2)).bind fun (x8, b9) =>
((iter FUEL (arrival_Trace.loop1 x8) ((⟨.nil, 0, 0, false⟩, 0), h5)).bind fun (fl22, h21) => match fl22 with
| .next _ => none
| .ret rr23 => (some (rr23, h21))
| .ex0 y24 =>
(some ((y24, 0), h21))
| .ex1 _ => none))))))))))
def arrival_Trace.A : Ann := { lits := [], conds := [], loops := [(6, [7, 21], [.leaf .slice, .leaf (.int .i64)], [7], [.leaf .slice], some 0, none)], regs := [], ros := [3], rol := [18] }
theorem arrival_Trace.eq : ∀ (x : TT [.leaf .slice, .agg KC]) (h : H), evalFn Tryz.prog (arrival_Trace.tb) arrival_Trace.A Tryz.f15 (.many [.leaf .slice, .leaf (.int .i64)]) (TT.un [.leaf .slice, .agg KC] x) h = arrival_Trace x.1 x.2 h := by
  intro x h
  kernel_rfl
noncomputable def arrival_TraceP (a0 : (List Fct)) (a1 : Ky) : Option ((List Ky) × Int) := (arrival_Trace (rowSV false FC a0) a1 H.empty).bind fun p => rdRes false p.2 (.many [.leaf (.row KC), .leaf (.int .i64)]) (Res.un (.many [.leaf .slice, .leaf (.int .i64)]) p.1)
theorem arrival_TraceP.eq : ∀ x : TT [.leaf (.row FC), .agg KC], ((evalFn Tryz.prog (arrival_Trace.tb) arrival_Trace.A Tryz.f15 (.many [.leaf .slice, .leaf (.int .i64)]) (TT.lo false [.leaf (.row FC), .agg KC] x) H.empty).bind fun p => rdRes false p.2 (.many [.leaf (.row KC), .leaf (.int .i64)]) (Res.un (.many [.leaf .slice, .leaf (.int .i64)]) p.1)) = arrival_TraceP x.1 x.2 := by
  intro x
  rw [show TT.lo false [.leaf (.row FC), .agg KC] x = TT.un [.leaf .slice, .agg KC] ((rowSV false FC x.1), x.2) from rfl, arrival_Trace.eq]
  rfl
noncomputable def arrival_TraceP.e : Entry := mkP [.leaf (.row FC), .agg KC] (.many [.leaf (.row KC), .leaf (.int .i64)]) fun x => arrival_TraceP x.1 x.2
theorem arrival_TraceP.ok : EntryOK Tryz.prog 15 (arrival_TraceP.e) := mkP_ok (arrival_Trace.tbok) Tryz.mixed Tryz.func15 (by kernel_rfl) arrival_TraceP.eq
noncomputable def arrival_Correct.tb : Table := tab [(47, slices_Clone_string_stringP.e), (75, madeFree.e)] [] Table.nil
theorem arrival_Correct.tbok : TabOK Tryz.prog (arrival_Correct.tb) := TabOK.tab (TabOK.nil Tryz.prog) (all_cons slices_Clone_string_stringP.ok (all_cons madeFree.ok (all_nil _))) (all_nil _)
noncomputable def arrival_Correct (a0 : Ky) (a1 : Ky) (a2 : Fsv) (h : H) : Option ((Fsv × Int) × H) :=
(match a0 with
| (a0_0, a0_1, a0_2) =>
(match a1 with
| (a1_0, a1_1, a1_2) =>
(match a2 with
| (a2_0, a2_1, a2_2, a2_3, a2_4, a2_5) =>
(let h1 : H := H.new h [.int .i64 a0_0, .int .i64 a0_1, .int .i64 a0_2] 3
(let h2 : H := H.new h1 [.int .i64 a1_0, .int .i64 a1_1, .int .i64 a1_2] 3
(let h3 : H := H.new h2 [.int .i64 a2_0, .int .i64 a2_1, .int .i64 a2_2, .int .i64 a2_3, .slice a2_4.a a2_4.len a2_4.cap a2_4.tail, .slice a2_5.a a2_5.len a2_5.cap a2_5.tail] 6
(let h4 : H := H.new h3 [.int .i64 0, .int .i64 0, .int .i64 0, .int .i64 0, .slice .nil 0 0 false, .slice .nil 0 0 false] 6
(let h5 : H := H.reserve h4 1
((rdT (.agg KC) h5 (.hp h.next 3 0)).bind fun (x6_0, x6_1, x6_2) =>
((rdT (.leaf (.int .i64)) h5 (.hp h1.next 3 0)).bind fun x7 =>
((rdT (.leaf (.int .i64)) h5 (.hp h1.next 3 1)).bind fun x8 =>
((rdT (.leaf (.int .i64)) h5 (.hp h1.next 3 2)).bind fun x9 =>
((rdT (.leaf (.int .i64)) h5 (.hp h2.next 6 3)).bind fun x10 =>
((rdT (.leaf .slice) h5 (.hp h2.next 6 4)).bind fun x11 =>
((cellsOf h5 (.slice x11.a x11.len x11.cap x11.tail : V) 1).bind fun (n14, cs14) =>
((appendS h5 (some h4.next) 1 8 (⟨.lp true ([.int .i64 x7, .int .i64 x8, .int .i64 x9, .int .i64 x10]) 0, 4, 4, false⟩) cs14 n14).bind fun (s14, h13) =>
((rdT (.leaf .slice) h13 (.hp h2.next 6 5)).bind fun x17 =>
((rdRow true h13 [.str] x17).bind fun s19 =>
((cloneP 16 s19).bind fun r18 =>
((madeFree (x6_0, x6_1, x6_2, 90, s14, (rowSV true [.str] r18)) h13).bind fun (((r20_0, r20_1, r20_2, r20_3, r20_4, r20_5), r21), h22) =>
((H.wrs h22 (.hp h3.next 6 0) [.int .i64 r20_0, .int .i64 r20_1, .int .i64 r20_2, .int .i64 r20_3, .slice r20_4.a r20_4.len r20_4.cap r20_4.tail, .slice r20_5.a r20_5.len r20_5.cap r20_5.tail]).bind fun h23 =>
(guardO (apartA (.hp h.next 3 0 : V) ((appAddr (.slice (.lp true ([.int .i64 x7, .int .i64 x8, .int .i64 x9, .int .i64 x10]) 0) 4 4 false : V) (.slice x11.a x11.len x11.cap x11.tail : V) (some h4.next)) : V) = true) (guardO (apartA ((appAddr (.slice (.lp true ([.int .i64 x7, .int .i64 x8, .int .i64 x9, .int .i64 x10]) 0) 4 4 false : V) (.slice x11.a x11.len x11.cap x11.tail : V) (some h4.next)) : V) (.hp h2.next 6 5 : V) = true) ((rdT (.agg FS) h23 (.hp h3.next 6 0 : V)).bind fun (x24_0, x24_1, x24_2, x24_3, x24_4, x24_5) =>
(some (((x24_0, x24_1, x24_2, x24_3, x24_4, x24_5), r21), h23))))))))))))))))))))))))))
def arrival_Correct.A : Ann := { lits := [], conds := [], loops := [], regs := [], apps := [20] }
theorem arrival_Correct.eq : ∀ (x : TT [.agg KC, .agg KC, .agg FS]) (h : H), evalFn Tryz.prog (arrival_Correct.tb) arrival_Correct.A Tryz.f26 (.many [.agg FS, .leaf (.int .i64)]) (TT.un [.agg KC, .agg KC, .agg FS] x) h = arrival_Correct x.1 x.2.1 x.2.2 h := by
  intro x h
  kernel_rfl
noncomputable def arrival_CorrectP (a0 : Ky) (a1 : Ky) (a2 : Fct) : Option (Fct × Int) := (arrival_Correct a0 a1 (a2.1, a2.2.1, a2.2.2.1, a2.2.2.2.1, rowSV false [.int .i64] a2.2.2.2.2.1, rowSV false [.str] a2.2.2.2.2.2) H.empty).bind fun p => rdRes false p.2 (.many [.agg FC, .leaf (.int .i64)]) (Res.un (.many [.agg FS, .leaf (.int .i64)]) p.1)
theorem arrival_CorrectP.eq : ∀ x : TT [.agg KC, .agg KC, .agg FC], ((evalFn Tryz.prog (arrival_Correct.tb) arrival_Correct.A Tryz.f26 (.many [.agg FS, .leaf (.int .i64)]) (TT.lo false [.agg KC, .agg KC, .agg FC] x) H.empty).bind fun p => rdRes false p.2 (.many [.agg FC, .leaf (.int .i64)]) (Res.un (.many [.agg FS, .leaf (.int .i64)]) p.1)) = arrival_CorrectP x.1 x.2.1 x.2.2 := by
  intro x
  rw [show TT.lo false [.agg KC, .agg KC, .agg FC] x = TT.un [.agg KC, .agg KC, .agg FS] (x.1, x.2.1, (x.2.2.1, x.2.2.2.1, x.2.2.2.2.1, x.2.2.2.2.2.1, rowSV false [.int .i64] x.2.2.2.2.2.2.1, rowSV false [.str] x.2.2.2.2.2.2.2)) from rfl, arrival_Correct.eq]
  rfl
noncomputable def arrival_CorrectP.e : Entry := mkP [.agg KC, .agg KC, .agg FC] (.many [.agg FC, .leaf (.int .i64)]) fun x => arrival_CorrectP x.1 x.2.1 x.2.2
theorem arrival_CorrectP.ok : EntryOK Tryz.prog 26 (arrival_CorrectP.e) := mkP_ok (arrival_Correct.tbok) Tryz.mixed Tryz.func26 (by kernel_rfl) arrival_CorrectP.eq
noncomputable def law_awake.tb : Table := tab [(12, arrival_MergeP.e), (15, arrival_TraceP.e), (18, slices_Equal_K2P.e), (20, arrival_AddP.e), (21, r53_CopyP.e), (23, arrival_DifferP.e), (25, r53_SameP.e), (26, arrival_CorrectP.e), (28, arrival_UndoP.e), (43, law_keyP.e)] [] Table.nil
theorem law_awake.tbok : TabOK Tryz.prog (law_awake.tb) := TabOK.tab (TabOK.nil Tryz.prog) (all_cons arrival_MergeP.ok (all_cons arrival_TraceP.ok (all_cons slices_Equal_K2P.ok (all_cons arrival_AddP.ok (all_cons r53_CopyP.ok (all_cons arrival_DifferP.ok (all_cons r53_SameP.ok (all_cons arrival_CorrectP.ok (all_cons arrival_UndoP.ok (all_cons law_keyP.ok (all_nil _))))))))))) (all_nil _)
noncomputable def law_awake (h : H) : Option ((Bool) × H) :=
((law_keyP 1 1 1).bind fun (r1_0, r1_1, r1_2) =>
(let h2 : H := H.new h [.int .i64 0, .int .i64 0, .int .i64 0, .int .i64 0, .slice .nil 0 0 false, .slice .nil 0 0 false] 6
((H.wrs h2 (.hp h.next 6 0) [.int .i64 r1_0, .int .i64 r1_1, .int .i64 r1_2, .int .i64 1, .slice (.lp true ([.int .i64 7]) 0) 1 1 false, .slice .nil 0 0 false]).bind fun h3 =>
(let h4 : H := H.reserve h3 1
((law_keyP 5 1 1).bind fun (r5_0, r5_1, r5_2) =>
((rdT (.agg KC) h4 (.hp h.next 6 0)).bind fun (x6_0, x6_1, x6_2) =>
((rdRow true h4 [.int .i64] ⟨.lp true ([.int .i64 8]) 0, 1, 1, false⟩).bind fun s9 =>
((rdRow true h4 [.str] ⟨.nil, 0, 0, false⟩).bind fun s10 =>
((arrival_CorrectP (r5_0, r5_1, r5_2) (x6_0, x6_1, x6_2) (0, 0, 0, 2, s9, s10)).bind fun ((r7_0, r7_1, r7_2, r7_3, r7_4, r7_5), r8) =>
(let h11 : H := H.put h4 h3.next (.own [.int .i64 0, .int .i64 0, .int .i64 0, .int .i64 0, .slice .nil 0 0 false, .slice .nil 0 0 false] 6)
((H.wrs h11 (.hp h3.next 6 0) [.int .i64 r7_0, .int .i64 r7_1, .int .i64 r7_2, .int .i64 r7_3, .slice ((rowSV true [.int .i64] r7_4).a) r7_4.length r7_4.length true, .slice ((rowSV true [.str] r7_5).a) r7_5.length r7_5.length true]).bind fun h12 =>
(guardO (apartA (.hp h.next 6 0 : V) (.hp h3.next 0 0 : V) = true) (let h13 : H := H.reserve h12 1
((law_keyP 3 1 9).bind fun (r14_0, r14_1, r14_2) =>
((rdT (.agg KC) h13 (.hp h.next 6 0)).bind fun (x15_0, x15_1, x15_2) =>
((arrival_UndoP (r14_0, r14_1, r14_2) (x15_0, x15_1, x15_2)).bind fun ((r16_0, r16_1, r16_2, r16_3, r16_4, r16_5), r17) =>
(let h18 : H := H.put h13 h12.next (.own [.int .i64 0, .int .i64 0, .int .i64 0, .int .i64 0, .slice .nil 0 0 false, .slice .nil 0 0 false] 6)
((H.wrs h18 (.hp h12.next 6 0) [.int .i64 r16_0, .int .i64 r16_1, .int .i64 r16_2, .int .i64 r16_3, .slice ((rowSV true [.int .i64] r16_4).a) r16_4.length r16_4.length true, .slice ((rowSV true [.str] r16_5).a) r16_5.length r16_5.length true]).bind fun h19 =>
(guardO (apartA (.hp h.next 6 0 : V) (.hp h12.next 0 0 : V) = true) (let h20 : H := H.reserve h19 1
((rdT (.agg FS) h20 (.hp h3.next 6 0)).bind fun (x21_0, x21_1, x21_2, x21_3, x21_4, x21_5) =>
((rdRow true h20 [.int .i64] x21_4).bind fun s23 =>
((rdRow true h20 [.str] x21_5).bind fun s24 =>
((r53_CopyP (x21_0, x21_1, x21_2, x21_3, s23, s24)).bind fun (r22_0, r22_1, r22_2, r22_3, r22_4, r22_5) =>
((rdT (.agg FS) h20 (.hp h12.next 6 0)).bind fun (x25_0, x25_1, x25_2, x25_3, x25_4, x25_5) =>
((rdRow true h20 [.int .i64] x25_4).bind fun s27 =>
((rdRow true h20 [.str] x25_5).bind fun s28 =>
((r53_CopyP (x25_0, x25_1, x25_2, x25_3, s27, s28)).bind fun (r26_0, r26_1, r26_2, r26_3, r26_4, r26_5) =>
((rdT (.agg FS) h20 (.hp h.next 6 0)).bind fun (x29_0, x29_1, x29_2, x29_3, x29_4, x29_5) =>
((rdRow true h20 FC ⟨.lp true ([.int .i64 r22_0, .int .i64 r22_1, .int .i64 r22_2, .int .i64 r22_3, .slice ((rowSV true [.int .i64] r22_4).a) r22_4.length r22_4.length true, .slice ((rowSV true [.str] r22_5).a) r22_5.length r22_5.length true, .int .i64 r26_0, .int .i64 r26_1, .int .i64 r26_2, .int .i64 r26_3, .slice ((rowSV true [.int .i64] r26_4).a) r26_4.length r26_4.length true, .slice ((rowSV true [.str] r26_5).a) r26_5.length r26_5.length true, .int .i64 x29_0, .int .i64 x29_1, .int .i64 x29_2, .int .i64 x29_3, .slice x29_4.a x29_4.len x29_4.cap x29_4.tail, .slice x29_5.a x29_5.len x29_5.cap x29_5.tail]) 0, 3, 3, false⟩).bind fun s32 =>
((arrival_MergeP s32).bind fun ((r30_0, r30_1, r30_2, r30_3), r31) =>
(let h33 : H := H.put h20 h19.next (.own [.slice .nil 0 0 false, .slice .nil 0 0 false, .slice .nil 0 0 false, .slice .nil 0 0 false] 4)
((H.wrs h33 (.hp h19.next 4 0) [.slice ((rowSV true FC r30_0).a) r30_0.length r30_0.length true, .slice ((rowSV true KC r30_1).a) r30_1.length r30_1.length true, .slice ((rowSV true KC r30_2).a) r30_2.length r30_2.length true, .slice ((rowSV true KC r30_3).a) r30_3.length r30_3.length true]).bind fun h34 =>
(guardO (apartA (.hp h3.next 6 0 : V) (.hp h19.next 0 0 : V) = true) (guardO (apartA (.hp h12.next 6 0 : V) (.hp h19.next 0 0 : V) = true) (guardO (apartA (.hp h.next 6 0 : V) (.hp h19.next 0 0 : V) = true) ((rdT (.agg KC) h34 (.hp h3.next 6 0)).bind fun (x35_0, x35_1, x35_2) =>
(let h36 : H := H.new h34 [.int .i64 0, .int .i64 0, .int .i64 0, .int .i64 0, .slice .nil 0 0 false, .slice .nil 0 0 false] 6
((H.wrs h36 (.hp h34.next 6 0) [.int .i64 x35_0, .int .i64 x35_1, .int .i64 x35_2, .int .i64 4, .slice .nil 0 0 false, .slice .nil 0 0 false]).bind fun h37 =>
(let h38 : H := H.reserve h37 1
((rdT (.agg FS) h38 (.hp h.next 6 0)).bind fun (x39_0, x39_1, x39_2, x39_3, x39_4, x39_5) =>
((rdRow true h38 [.int .i64] x39_4).bind fun s41 =>
((rdRow true h38 [.str] x39_5).bind fun s42 =>
((r53_CopyP (x39_0, x39_1, x39_2, x39_3, s41, s42)).bind fun (r40_0, r40_1, r40_2, r40_3, r40_4, r40_5) =>
((rdT (.agg FS) h38 (.hp h3.next 6 0)).bind fun (x43_0, x43_1, x43_2, x43_3, x43_4, x43_5) =>
((rdRow true h38 [.int .i64] x43_4).bind fun s45 =>
((rdRow true h38 [.str] x43_5).bind fun s46 =>
((r53_CopyP (x43_0, x43_1, x43_2, x43_3, s45, s46)).bind fun (r44_0, r44_1, r44_2, r44_3, r44_4, r44_5) =>
((rdT (.agg FS) h38 (.hp h12.next 6 0)).bind fun (x47_0, x47_1, x47_2, x47_3, x47_4, x47_5) =>
((rdRow true h38 [.int .i64] x47_4).bind fun s49 =>
((rdRow true h38 [.str] x47_5).bind fun s50 =>
((r53_CopyP (x47_0, x47_1, x47_2, x47_3, s49, s50)).bind fun (r48_0, r48_1, r48_2, r48_3, r48_4, r48_5) =>
((rdT (.agg FS) h38 (.hp h34.next 6 0)).bind fun (x51_0, x51_1, x51_2, x51_3, x51_4, x51_5) =>
((rdRow true h38 FC ⟨.lp true ([.int .i64 r40_0, .int .i64 r40_1, .int .i64 r40_2, .int .i64 r40_3, .slice ((rowSV true [.int .i64] r40_4).a) r40_4.length r40_4.length true, .slice ((rowSV true [.str] r40_5).a) r40_5.length r40_5.length true, .int .i64 r44_0, .int .i64 r44_1, .int .i64 r44_2, .int .i64 r44_3, .slice ((rowSV true [.int .i64] r44_4).a) r44_4.length r44_4.length true, .slice ((rowSV true [.str] r44_5).a) r44_5.length r44_5.length true, .int .i64 r48_0, .int .i64 r48_1, .int .i64 r48_2, .int .i64 r48_3, .slice ((rowSV true [.int .i64] r48_4).a) r48_4.length r48_4.length true, .slice ((rowSV true [.str] r48_5).a) r48_5.length r48_5.length true, .int .i64 x51_0, .int .i64 x51_1, .int .i64 x51_2, .int .i64 x51_3, .slice x51_4.a x51_4.len x51_4.cap x51_4.tail, .slice x51_5.a x51_5.len x51_5.cap x51_5.tail]) 0, 4, 4, false⟩).bind fun s54 =>
((arrival_MergeP s54).bind fun ((r52_0, r52_1, r52_2, r52_3), r53) =>
(let h55 : H := H.put h38 h37.next (.own [.slice .nil 0 0 false, .slice .nil 0 0 false, .slice .nil 0 0 false, .slice .nil 0 0 false] 4)
((H.wrs h55 (.hp h37.next 4 0) [.slice ((rowSV true FC r52_0).a) r52_0.length r52_0.length true, .slice ((rowSV true KC r52_1).a) r52_1.length r52_1.length true, .slice ((rowSV true KC r52_2).a) r52_2.length r52_2.length true, .slice ((rowSV true KC r52_3).a) r52_3.length r52_3.length true]).bind fun h56 =>
(guardO (apartA (.hp h.next 6 0 : V) (.hp h37.next 0 0 : V) = true) (guardO (apartA (.hp h3.next 6 0 : V) (.hp h37.next 0 0 : V) = true) (guardO (apartA (.hp h12.next 6 0 : V) (.hp h37.next 0 0 : V) = true) (guardO (apartA (.hp h34.next 6 0 : V) (.hp h37.next 0 0 : V) = true) ((law_keyP 7 1 1).bind fun (r57_0, r57_1, r57_2) =>
((law_keyP 9 9 9).bind fun (r58_0, r58_1, r58_2) =>
((arrival_UndoP (r57_0, r57_1, r57_2) (r58_0, r58_1, r58_2)).bind fun ((r59_0, r59_1, r59_2, r59_3, r59_4, r59_5), r60) =>
(let h61 : H := H.new h56 [.int .i64 0, .int .i64 0, .int .i64 0, .int .i64 0, .slice .nil 0 0 false, .slice .nil 0 0 false] 6
((H.wrs h61 (.hp h56.next 6 0) [.int .i64 r59_0, .int .i64 r59_1, .int .i64 r59_2, .int .i64 r59_3, .slice ((rowSV true [.int .i64] r59_4).a) r59_4.length r59_4.length true, .slice ((rowSV true [.str] r59_5).a) r59_5.length r59_5.length true]).bind fun h62 =>
(let h63 : H := H.reserve h62 1
((law_keyP 8 1 1).bind fun (r64_0, r64_1, r64_2) =>
((rdT (.agg KC) h63 (.hp h12.next 6 0)).bind fun (x65_0, x65_1, x65_2) =>
((arrival_UndoP (r64_0, r64_1, r64_2) (x65_0, x65_1, x65_2)).bind fun ((r66_0, r66_1, r66_2, r66_3, r66_4, r66_5), r67) =>
(let h68 : H := H.put h63 h62.next (.own [.int .i64 0, .int .i64 0, .int .i64 0, .int .i64 0, .slice .nil 0 0 false, .slice .nil 0 0 false] 6)
((H.wrs h68 (.hp h62.next 6 0) [.int .i64 r66_0, .int .i64 r66_1, .int .i64 r66_2, .int .i64 r66_3, .slice ((rowSV true [.int .i64] r66_4).a) r66_4.length r66_4.length true, .slice ((rowSV true [.str] r66_5).a) r66_5.length r66_5.length true]).bind fun h69 =>
(guardO (apartA (.hp h12.next 6 0 : V) (.hp h62.next 0 0 : V) = true) (let h70 : H := H.reserve h69 1
((rdT (.agg FS) h70 (.hp h56.next 6 0)).bind fun (x71_0, x71_1, x71_2, x71_3, x71_4, x71_5) =>
((rdRow true h70 [.int .i64] x71_4).bind fun s73 =>
((rdRow true h70 [.str] x71_5).bind fun s74 =>
((r53_CopyP (x71_0, x71_1, x71_2, x71_3, s73, s74)).bind fun (r72_0, r72_1, r72_2, r72_3, r72_4, r72_5) =>
((rdT (.agg FS) h70 (.hp h62.next 6 0)).bind fun (x75_0, x75_1, x75_2, x75_3, x75_4, x75_5) =>
((rdRow true h70 [.int .i64] x75_4).bind fun s77 =>
((rdRow true h70 [.str] x75_5).bind fun s78 =>
((r53_CopyP (x75_0, x75_1, x75_2, x75_3, s77, s78)).bind fun (r76_0, r76_1, r76_2, r76_3, r76_4, r76_5) =>
((rdT (.agg FS) h70 (.hp h12.next 6 0)).bind fun (x79_0, x79_1, x79_2, x79_3, x79_4, x79_5) =>
((rdRow true h70 [.int .i64] x79_4).bind fun s81 =>
((rdRow true h70 [.str] x79_5).bind fun s82 =>
((r53_CopyP (x79_0, x79_1, x79_2, x79_3, s81, s82)).bind fun (r80_0, r80_1, r80_2, r80_3, r80_4, r80_5) =>
((rdRow true h70 FC ⟨.lp true ([.int .i64 r72_0, .int .i64 r72_1, .int .i64 r72_2, .int .i64 r72_3, .slice ((rowSV true [.int .i64] r72_4).a) r72_4.length r72_4.length true, .slice ((rowSV true [.str] r72_5).a) r72_5.length r72_5.length true, .int .i64 r76_0, .int .i64 r76_1, .int .i64 r76_2, .int .i64 r76_3, .slice ((rowSV true [.int .i64] r76_4).a) r76_4.length r76_4.length true, .slice ((rowSV true [.str] r76_5).a) r76_5.length r76_5.length true, .int .i64 r80_0, .int .i64 r80_1, .int .i64 r80_2, .int .i64 r80_3, .slice ((rowSV true [.int .i64] r80_4).a) r80_4.length r80_4.length true, .slice ((rowSV true [.str] r80_5).a) r80_5.length r80_5.length true]) 0, 3, 3, false⟩).bind fun s85 =>
((arrival_MergeP s85).bind fun ((r83_0, r83_1, r83_2, r83_3), r84) =>
(let h86 : H := H.put h70 h69.next (.own [.slice .nil 0 0 false, .slice .nil 0 0 false, .slice .nil 0 0 false, .slice .nil 0 0 false] 4)
((H.wrs h86 (.hp h69.next 4 0) [.slice ((rowSV true FC r83_0).a) r83_0.length r83_0.length true, .slice ((rowSV true KC r83_1).a) r83_1.length r83_1.length true, .slice ((rowSV true KC r83_2).a) r83_2.length r83_2.length true, .slice ((rowSV true KC r83_3).a) r83_3.length r83_3.length true]).bind fun h87 =>
(guardO (apartA (.hp h56.next 6 0 : V) (.hp h69.next 0 0 : V) = true) (guardO (apartA (.hp h62.next 6 0 : V) (.hp h69.next 0 0 : V) = true) (guardO (apartA (.hp h12.next 6 0 : V) (.hp h69.next 0 0 : V) = true) (let h88 : H := H.reserve h87 0
((rdT (.agg FS) h88 (.hp h.next 6 0)).bind fun (x89_0, x89_1, x89_2, x89_3, x89_4, x89_5) =>
((rdRow true h88 [.int .i64] x89_4).bind fun s91 =>
((rdRow true h88 [.str] x89_5).bind fun s92 =>
((r53_CopyP (x89_0, x89_1, x89_2, x89_3, s91, s92)).bind fun (r90_0, r90_1, r90_2, r90_3, r90_4, r90_5) =>
((rdT (.agg FS) h88 (.hp h3.next 6 0)).bind fun (x93_0, x93_1, x93_2, x93_3, x93_4, x93_5) =>
((rdRow true h88 [.int .i64] x93_4).bind fun s95 =>
((rdRow true h88 [.str] x93_5).bind fun s96 =>
((r53_CopyP (x93_0, x93_1, x93_2, x93_3, s95, s96)).bind fun (r94_0, r94_1, r94_2, r94_3, r94_4, r94_5) =>
((rdT (.agg FS) h88 (.hp h12.next 6 0)).bind fun (x97_0, x97_1, x97_2, x97_3, x97_4, x97_5) =>
((rdRow true h88 [.int .i64] x97_4).bind fun s99 =>
((rdRow true h88 [.str] x97_5).bind fun s100 =>
((r53_CopyP (x97_0, x97_1, x97_2, x97_3, s99, s100)).bind fun (r98_0, r98_1, r98_2, r98_3, r98_4, r98_5) =>
((rdT (.agg KC) h88 (.hp h.next 6 0)).bind fun (x101_0, x101_1, x101_2) =>
((rdRow true h88 FC ⟨.lp true ([.int .i64 r90_0, .int .i64 r90_1, .int .i64 r90_2, .int .i64 r90_3, .slice ((rowSV true [.int .i64] r90_4).a) r90_4.length r90_4.length true, .slice ((rowSV true [.str] r90_5).a) r90_5.length r90_5.length true, .int .i64 r94_0, .int .i64 r94_1, .int .i64 r94_2, .int .i64 r94_3, .slice ((rowSV true [.int .i64] r94_4).a) r94_4.length r94_4.length true, .slice ((rowSV true [.str] r94_5).a) r94_5.length r94_5.length true, .int .i64 r98_0, .int .i64 r98_1, .int .i64 r98_2, .int .i64 r98_3, .slice ((rowSV true [.int .i64] r98_4).a) r98_4.length r98_4.length true, .slice ((rowSV true [.str] r98_5).a) r98_5.length r98_5.length true]) 0, 3, 3, false⟩).bind fun s104 =>
((arrival_TraceP s104 (x101_0, x101_1, x101_2)).bind fun (r102, r103) =>
((rdT (.agg FS) h88 (.hp h.next 6 0)).bind fun (x105_0, x105_1, x105_2, x105_3, x105_4, x105_5) =>
((rdRow true h88 [.int .i64] x105_4).bind fun s107 =>
((rdRow true h88 [.str] x105_5).bind fun s108 =>
((r53_CopyP (x105_0, x105_1, x105_2, x105_3, s107, s108)).bind fun (r106_0, r106_1, r106_2, r106_3, r106_4, r106_5) =>
((rdRow true h88 FC ⟨.nil, 0, 0, false⟩).bind fun s112 =>
((rdRow true h88 [.int .i64] (rowSV true [.int .i64] r106_4)).bind fun s113 =>
((rdRow true h88 [.str] (rowSV true [.str] r106_5)).bind fun s114 =>
((arrival_AddP s112 (r106_0, r106_1, r106_2, r106_3, s113, s114)).bind fun (r109, r110, r111) =>
((rdT (.agg FS) h88 (.hp h.next 6 0)).bind fun (x115_0, x115_1, x115_2, x115_3, x115_4, x115_5) =>
((rdRow true h88 [.int .i64] x115_4).bind fun s117 =>
((rdRow true h88 [.str] x115_5).bind fun s118 =>
((r53_CopyP (x115_0, x115_1, x115_2, x115_3, s117, s118)).bind fun (r116_0, r116_1, r116_2, r116_3, r116_4, r116_5) =>
((rdRow true h88 FC ⟨.lp true ([.int .i64 r116_0, .int .i64 r116_1, .int .i64 r116_2, .int .i64 r116_3, .slice ((rowSV true [.int .i64] r116_4).a) r116_4.length r116_4.length true, .slice ((rowSV true [.str] r116_5).a) r116_5.length r116_5.length true]) 0, 1, 1, false⟩).bind fun s122 =>
((rdRow true h88 FC ⟨.nil, 0, 0, false⟩).bind fun s123 =>
((arrival_DifferP s122 s123).bind fun (r119, r120, r121) =>
((rdT (.agg KC) h88 (.hp h.next 6 0)).bind fun (x124_0, x124_1, x124_2) =>
(let h125 : H := H.new h88 [.int .i64 0, .int .i64 0, .int .i64 0, .int .i64 0, .slice .nil 0 0 false, .slice .nil 0 0 false] 6
((H.wrs h125 (.hp h88.next 6 0) [.int .i64 x124_0, .int .i64 x124_1, .int .i64 x124_2, .int .i64 2, .slice (.lp true ([.int .i64 8]) 0) 1 1 false, .slice .nil 0 0 false]).bind fun h126 =>
(((let h127 : H := H.reserve h126 0
(bif (decide ((IntKind.wrap .i64 ((IntKind.wrap .i64 ((IntKind.wrap .i64 ((IntKind.wrap .i64 ((IntKind.wrap .i64 ((IntKind.wrap .i64 ((IntKind.wrap .i64 ((IntKind.wrap .i64 ((IntKind.wrap .i64 (r8 + r17)) + r31)) + r53)) + r60)) + r67)) + r84)) + r103)) + r111)) + r121)) = 0)) then ((rdT (.leaf .slice) h127 (.hp h19.next 4 0)).bind fun x128 =>
((rdT (.agg FS) h127 (.hp h88.next 6 0)).bind fun (x129_0, x129_1, x129_2, x129_3, x129_4, x129_5) =>
((rdRow true h127 FC x128).bind fun s131 =>
((rdRow true h127 FC ⟨.lp true ([.int .i64 x129_0, .int .i64 x129_1, .int .i64 x129_2, .int .i64 x129_3, .slice x129_4.a x129_4.len x129_4.cap x129_4.tail, .slice x129_5.a x129_5.len x129_5.cap x129_5.tail]) 0, 1, 1, false⟩).bind fun s132 =>
((r53_SameP s131 s132).bind fun r130 =>
(bif r130 then ((rdT (.leaf .slice) h127 (.hp h37.next 4 0)).bind fun x133 =>
(bif (decide (((x133.len : Nat) : Int) = 0)) then ((rdT (.leaf .slice) h127 (.hp h37.next 4 1)).bind fun x134 =>
((law_keyP 5 1 1).bind fun (r135_0, r135_1, r135_2) =>
((rdRow true h127 KC x134).bind fun s137 =>
((rdRow true h127 KC ⟨.lp true ([.int .i64 r135_0, .int .i64 r135_1, .int .i64 r135_2]) 0, 1, 1, false⟩).bind fun s138 =>
((slices_Equal_K2P s137 s138).bind fun r136 =>
(bif r136 then ((rdT (.leaf .slice) h127 (.hp h69.next 4 2)).bind fun x139 =>
((law_keyP 3 1 9).bind fun (r140_0, r140_1, r140_2) =>
((law_keyP 7 1 1).bind fun (r141_0, r141_1, r141_2) =>
((rdRow true h127 KC x139).bind fun s143 =>
((rdRow true h127 KC ⟨.lp true ([.int .i64 r140_0, .int .i64 r140_1, .int .i64 r140_2, .int .i64 r141_0, .int .i64 r141_1, .int .i64 r141_2]) 0, 2, 2, false⟩).bind fun s144 =>
((slices_Equal_K2P s143 s144).bind fun r142 =>
(bif r142 then ((rdT (.leaf .slice) h127 (.hp h69.next 4 3)).bind fun x145 =>
((law_keyP 8 1 1).bind fun (r146_0, r146_1, r146_2) =>
((rdRow true h127 KC x145).bind fun s148 =>
((rdRow true h127 KC ⟨.lp true ([.int .i64 r146_0, .int .i64 r146_1, .int .i64 r146_2]) 0, 1, 1, false⟩).bind fun s149 =>
((slices_Equal_K2P s148 s149).bind fun r147 =>
(bif r147 then ((law_keyP 3 1 9).bind fun (r150_0, r150_1, r150_2) =>
((law_keyP 5 1 1).bind fun (r151_0, r151_1, r151_2) =>
((rdRow true h127 KC (rowSV true KC r102)).bind fun s153 =>
((rdRow true h127 KC ⟨.lp true ([.int .i64 r150_0, .int .i64 r150_1, .int .i64 r150_2, .int .i64 r151_0, .int .i64 r151_1, .int .i64 r151_2]) 0, 2, 2, false⟩).bind fun s154 =>
((slices_Equal_K2P s153 s154).bind fun r152 =>
(bif r152 then (bif (decide (((r109.length : Nat) : Int) = 1)) then (bif r110 then (bif (decide (((r119.length : Nat) : Int) = 1)) then (some ((decide (((r120.length : Nat) : Int) = 0)), h127)) else (some (false, h127))) else (some (false, h127))) else (some (false, h127))) else (some (false, h127)))))))) else (some (false, h127)))))))) else (some (false, h127))))))))) else (some (false, h127)))))))) else (some (false, h127)))) else (some (false, h127)))))))) else (some (false, h127))))).bind fun (y155, h156) =>
(some (y155, h156))))))))))))))))))))))))))))))))))))))))))))))))))))))))))))))))))))))))))))))))))))))))))))))))))))))))))))))))))))))))))))))))))
def law_awake.A : Ann := { lits := [], conds := [], loops := [], regs := [(14, [0], [.leaf .bool])] }
theorem law_awake.eq : ∀ (x : TT []) (h : H), evalFn Tryz.prog (law_awake.tb) law_awake.A Tryz.f10 (.one (.leaf .bool)) (TT.un [] x) h = law_awake  h := by
  intro x h
  kernel_rfl
noncomputable def law_awakeP : Option (Bool) := (law_awake H.empty).bind fun p => rdRes false p.2 (.one (.leaf .bool)) (Res.un (.one (.leaf .bool)) p.1)
theorem law_awakeP.eq : ∀ x : TT [], ((evalFn Tryz.prog (law_awake.tb) law_awake.A Tryz.f10 (.one (.leaf .bool)) (TT.lo false [] x) H.empty).bind fun p => rdRes false p.2 (.one (.leaf .bool)) (Res.un (.one (.leaf .bool)) p.1)) = law_awakeP  := by
  intro x
  rw [show TT.lo false [] x = TT.un [] () from rfl, law_awake.eq]
  rfl
noncomputable def law_awakeP.e : Entry := mkP [] (.one (.leaf .bool)) fun x => law_awakeP 
theorem law_awakeP.ok : EntryOK Tryz.prog 10 (law_awakeP.e) := mkP_ok (law_awake.tbok) Tryz.mixed Tryz.func10 (by kernel_rfl) law_awakeP.eq
noncomputable def law_ArrivalSets.tb : Table := tab [(10, law_awakeP.e), (11, r54_FewP.e), (13, law_cpP.e), (19, r53_ShortP.e), (20, arrival_AddP.e), (21, r53_CopyP.e), (22, r54_AddP.e), (23, arrival_DifferP.e), (24, r54_DifferP.e), (25, r53_SameP.e)] [] Table.nil
theorem law_ArrivalSets.tbok : TabOK Tryz.prog (law_ArrivalSets.tb) := TabOK.tab (TabOK.nil Tryz.prog) (all_cons law_awakeP.ok (all_cons r54_FewP.ok (all_cons law_cpP.ok (all_cons r53_ShortP.ok (all_cons arrival_AddP.ok (all_cons r53_CopyP.ok (all_cons r54_AddP.ok (all_cons arrival_DifferP.ok (all_cons r54_DifferP.ok (all_cons r53_SameP.ok (all_nil _))))))))))) (all_nil _)
noncomputable def law_ArrivalSets (a0 : SV) (a1 : SV) (a2 : Fsv) (h : H) : Option ((Bool) × H) :=
(match a2 with
| (a2_0, a2_1, a2_2, a2_3, a2_4, a2_5) =>
(let h1 : H := H.new h [.int .i64 a2_0, .int .i64 a2_1, .int .i64 a2_2, .int .i64 a2_3, .slice a2_4.a a2_4.len a2_4.cap a2_4.tail, .slice a2_5.a a2_5.len a2_5.cap a2_5.tail] 6
((((law_awakeP ).bind fun r2 =>
(bif !(!r2) then ((rdRow true h1 FC a0).bind fun s4 =>
((r54_FewP s4).bind fun r3 =>
(bif !(!r3) then ((rdRow true h1 FC a1).bind fun s6 =>
((r54_FewP s6).bind fun r5 =>
(bif !(!r5) then ((rdT (.agg FS) h1 (.hp h.next 6 0)).bind fun (x7_0, x7_1, x7_2, x7_3, x7_4, x7_5) =>
((rdRow true h1 [.int .i64] x7_4).bind fun s9 =>
((rdRow true h1 [.str] x7_5).bind fun s10 =>
((r53_ShortP (x7_0, x7_1, x7_2, x7_3, s9, s10)).bind fun r8 =>
(some ((!r8), h1)))))) else (some (true, h1))))) else (some (true, h1))))) else (some (true, h1))))).bind fun (y11, h12) =>
(bif y11 then ((law_awakeP ).bind fun r13 =>
(some (r13, h12))) else (let h14 : H := H.reserve h12 0
((rdRow true h14 FC a0).bind fun s16 =>
((law_cpP s16).bind fun r15 =>
((rdT (.agg FS) h14 (.hp h.next 6 0)).bind fun (x17_0, x17_1, x17_2, x17_3, x17_4, x17_5) =>
((rdRow true h14 [.int .i64] x17_4).bind fun s19 =>
((rdRow true h14 [.str] x17_5).bind fun s20 =>
((r53_CopyP (x17_0, x17_1, x17_2, x17_3, s19, s20)).bind fun (r18_0, r18_1, r18_2, r18_3, r18_4, r18_5) =>
((rdRow true h14 FC (rowSV true FC r15)).bind fun s24 =>
((rdRow true h14 [.int .i64] (rowSV true [.int .i64] r18_4)).bind fun s25 =>
((rdRow true h14 [.str] (rowSV true [.str] r18_5)).bind fun s26 =>
((arrival_AddP s24 (r18_0, r18_1, r18_2, r18_3, s25, s26)).bind fun (r21, r22, r23) =>
((rdT (.agg FS) h14 (.hp h.next 6 0)).bind fun (x27_0, x27_1, x27_2, x27_3, x27_4, x27_5) =>
((rdRow true h14 FC a0).bind fun s31 =>
((rdRow true h14 [.int .i64] x27_4).bind fun s32 =>
((rdRow true h14 [.str] x27_5).bind fun s33 =>
((r54_AddP s31 (x27_0, x27_1, x27_2, x27_3, s32, s33)).bind fun (r28, r29, r30) =>
((rdRow true h14 FC a0).bind fun s35 =>
((law_cpP s35).bind fun r34 =>
((rdRow true h14 FC a1).bind fun s37 =>
((law_cpP s37).bind fun r36 =>
((rdRow true h14 FC (rowSV true FC r34)).bind fun s41 =>
((rdRow true h14 FC (rowSV true FC r36)).bind fun s42 =>
((arrival_DifferP s41 s42).bind fun (r38, r39, r40) =>
((rdRow true h14 FC a0).bind fun s46 =>
((rdRow true h14 FC a1).bind fun s47 =>
((r54_DifferP s46 s47).bind fun (r43, r44, r45) =>
((((rdRow true h14 FC (rowSV true FC r21)).bind fun s49 =>
((rdRow true h14 FC (rowSV true FC r28)).bind fun s50 =>
((r53_SameP s49 s50).bind fun r48 =>
(bif r48 then (bif (r22 == r29) then (bif (decide (r23 = r30)) then ((rdRow true h14 FC (rowSV true FC r38)).bind fun s52 =>
((rdRow true h14 FC (rowSV true FC r43)).bind fun s53 =>
((r53_SameP s52 s53).bind fun r51 =>
(bif r51 then ((rdRow true h14 FC (rowSV true FC r39)).bind fun s55 =>
((rdRow true h14 FC (rowSV true FC r44)).bind fun s56 =>
((r53_SameP s55 s56).bind fun r54 =>
(bif r54 then (some ((decide (r40 = r45)), h14)) else (some (false, h14)))))) else (some (false, h14)))))) else (some (false, h14))) else (some (false, h14))) else (some (false, h14))))))).bind fun (y57, h58) =>
(some (y57, h58)))))))))))))))))))))))))))))))))
def law_ArrivalSets.A : Ann := { lits := [], conds := [], loops := [], regs := [(1, [35], [.leaf .bool]), (7, [6], [.leaf .bool])] }
theorem law_ArrivalSets.eq : ∀ (x : TT [.leaf .slice, .leaf .slice, .agg FS]) (h : H), evalFn Tryz.prog (law_ArrivalSets.tb) law_ArrivalSets.A Tryz.f4 (.one (.leaf .bool)) (TT.un [.leaf .slice, .leaf .slice, .agg FS] x) h = law_ArrivalSets x.1 x.2.1 x.2.2 h := by
  intro x h
  kernel_rfl
noncomputable def law_ArrivalSetsP (a0 : (List Fct)) (a1 : (List Fct)) (a2 : Fct) : Option (Bool) := (law_ArrivalSets (rowSV false FC a0) (rowSV false FC a1) (a2.1, a2.2.1, a2.2.2.1, a2.2.2.2.1, rowSV false [.int .i64] a2.2.2.2.2.1, rowSV false [.str] a2.2.2.2.2.2) H.empty).bind fun p => rdRes false p.2 (.one (.leaf .bool)) (Res.un (.one (.leaf .bool)) p.1)
theorem law_ArrivalSetsP.eq : ∀ x : TT [.leaf (.row FC), .leaf (.row FC), .agg FC], ((evalFn Tryz.prog (law_ArrivalSets.tb) law_ArrivalSets.A Tryz.f4 (.one (.leaf .bool)) (TT.lo false [.leaf (.row FC), .leaf (.row FC), .agg FC] x) H.empty).bind fun p => rdRes false p.2 (.one (.leaf .bool)) (Res.un (.one (.leaf .bool)) p.1)) = law_ArrivalSetsP x.1 x.2.1 x.2.2 := by
  intro x
  rw [show TT.lo false [.leaf (.row FC), .leaf (.row FC), .agg FC] x = TT.un [.leaf .slice, .leaf .slice, .agg FS] ((rowSV false FC x.1), (rowSV false FC x.2.1), (x.2.2.1, x.2.2.2.1, x.2.2.2.2.1, x.2.2.2.2.2.1, rowSV false [.int .i64] x.2.2.2.2.2.2.1, rowSV false [.str] x.2.2.2.2.2.2.2)) from rfl, law_ArrivalSets.eq]
  rfl
def gq (xs : List Fct) (k : Nat) : Fct := (xs[k]?).getD zeroF
theorem gq_some {xs : List Fct} {k : Nat} (h : k < xs.length) : xs[k]? = some (gq xs k) := by
  rw [gq, List.getElem?_eq_getElem h]; rfl
theorem gq_eq {xs : List Fct} {k : Nat} (h : k < xs.length) : gq xs k = xs[k] := by rw [gq, List.getElem?_eq_getElem h]; rfl
theorem gq_set {xs : List Fct} {i k : Nat} {x : Fct} (h : i < xs.length) : gq (xs.set i x) k = if k = i then x else gq xs k := by
  unfold gq
  by_cases e : k = i
  · subst e; simp [h]
  · rw [if_neg e, List.getElem?_set_ne (by omega)]
def swq (i j : Nat) (xs : List Fct) : List Fct := (xs.set i (gq xs j)).set j (gq xs i)
theorem swq_length {i j : Nat} {xs : List Fct} : (swq i j xs).length = xs.length := by simp [swq]
theorem gq_swq {i j k : Nat} {xs : List Fct} (hi : i < xs.length) (hj : j < xs.length) : gq (swq i j xs) k = if k = j then gq xs i else if k = i then gq xs j else gq xs k := by
  unfold swq
  rw [gq_set (by simpa using hj), gq_set hi]
theorem swq_perm {i j : Nat} {xs : List Fct} (hi : i < xs.length) (hj : j < xs.length) : (swq i j xs).Perm xs := by
  have := List.set_set_perm hi hj
  unfold swq
  rw [gq_eq hj, gq_eq hi]
  exact this
def hQ (sl : List Slot) (id e : Nat) (xs : List Fct) : H := hL (sl.set id (.own (cellsL FC xs) e))
abbrev sQ (id N n c : Nat) (t : Bool) : SV := ⟨.hp id (N * 6) 0, n, c, t⟩
theorem sQ_a {id N n c : Nat} {t : Bool} : (sQ id N n c t).a = .hp id (N * 6) 0 := congrArg SV.a (Eq.refl (sQ id N n c t))
theorem sQ_len {id N n c : Nat} {t : Bool} : (sQ id N n c t).len = n := congrArg SV.len (Eq.refl (sQ id N n c t))
theorem packQ (x : Int) : Res.pack (.one (.leaf (.int .i64))) (.int .i64 x) = some x := rfl
theorem add_hpQ {id n k : Nat} : V.add (.hp id n 0) k = .hp id n k := by simp [V.add]
section steps
variable {sl : List Slot} {id e N : Nat} (hid : id < sl.length)
include hid
theorem rdQ {xs : List Fct} {k : Nat} (hn : xs.length = N) (hk : k < N) : rdT (.agg FS) (hQ sl id e xs) (V.add (.hp id (N * 6) 0) (k * 6)) = some (low true (gq xs k)) := by
  rw [add_hpQ]
  have := rds_ownL (ls := FC) (ms := FS) (xs := xs) (sl := sl.set id (.own (cellsL FC xs) e)) (id := id) (e := e) (n := N * 6) (i := k) (w := 6) (by simp [hid]) (by simp [hn]) rfl rfl (by omega)
  unfold hQ
  rw [this, gq_some (by omega)]
  rfl
theorem wrQ {xs : List Fct} {k : Nat} {x : Fct} (hn : xs.length = N) (hk : k < N) : H.wrs (hQ sl id e xs) (V.add (.hp id (N * 6) 0) (k * 6)) [.int .i64 x.1, .int .i64 x.2.1, .int .i64 x.2.2.1, .int .i64 x.2.2.2.1, .slice (rowSV true j1 x.2.2.2.2.1).a x.2.2.2.2.1.length x.2.2.2.2.1.length true, .slice (rowSV true t1 x.2.2.2.2.2).a x.2.2.2.2.2.length x.2.2.2.2.2.length true] = some (hQ sl id e (xs.set k x)) := by
  rw [add_hpQ]
  have := wrs_ownL (ls := FC) (xs := xs) (sl := sl.set id (.own (cellsL FC xs) e)) (id := id) (e := e) (n := N * 6) (i := k) (w := 6) (x := x) (vs := [.int .i64 x.1, .int .i64 x.2.1, .int .i64 x.2.2.1, .int .i64 x.2.2.2.1, .slice (rowSV true j1 x.2.2.2.2.1).a x.2.2.2.2.1.length x.2.2.2.2.1.length true, .slice (rowSV true t1 x.2.2.2.2.2).a x.2.2.2.2.2.length x.2.2.2.2.2.length true]) (by simp [hid]) (by simp [hn]) rfl (by omega) rfl
  unfold hQ
  rw [this]
  simp [List.set_set]
end steps
theorem i64q {m : Nat} {z : Int} (h : z = (m : Int)) (hm : m < 9223372036854775808) : IntKind.i64.wrap z = (m : Int) := by rw [h]; exact i64_nat hm
def CmpQ (T : Table) (v : V) (sl : List Slot) (id e N : Nat) (D : Fct → Prop) (c : Fct → Fct → Int) : Prop :=
  ∀ (x y : Fct) (xs : List Fct), D x → D y → xs.length = N → ∀ {R : Type} (k : V → H → Option R), callV T.dy v [argF true x, argF true y] (hQ sl id e xs) k = k (.int .i64 (c x y)) (hQ sl id e xs)
def SaysQ (c : Fct → Fct → Int) (lt : Fct → Fct → Prop) (later earlier : Fct) : Prop := (c later earlier < 0 → lt later earlier) ∧ (¬ c later earlier < 0 → lt earlier later)
section sort
variable {T : Table} {v : V} {sl : List Slot} {id e N n cp : Nat} {t : Bool} {D : Fct → Prop} {c : Fct → Fct → Int} {lt : Fct → Fct → Prop}
theorem insQ_inner (hid : id < sl.length) (hn63 : N < 4611686018427387904) (hc : CmpQ T v sl id e N D c) (htr : ∀ x y z, lt x y → lt y z → lt x z) {xs : List Fct} (hn : xs.length = N) (hnN : n ≤ N) {a i : Nat} (hai : a ≤ i) (hi : i < n)
    (hD : ∀ k, a ≤ k → k ≤ i → D (gq xs k)) (hs : ∀ p q, a ≤ p → p < q → q < i → lt (gq xs p) (gq xs q)) (hcmp : ∀ p, a ≤ p → p < i → SaysQ c lt (gq xs i) (gq xs p)) :
    ∃ ys, iter FUEL (slices_insertionSortC_F.loop1 T (sQ id N n cp t) (a : Int) v) ((i : Int), hQ sl id e xs) = some (.ex0 (), hQ sl id e ys) ∧ ys.length = N ∧ ys.Perm xs ∧ (∀ p, ¬ (a ≤ p ∧ p ≤ i) → gq ys p = gq xs p) ∧
      (∀ p, a ≤ p → p ≤ i → ∃ p', a ≤ p' ∧ p' ≤ i ∧ gq ys p = gq xs p') ∧ ∀ p q, a ≤ p → p < q → q ≤ i → lt (gq ys p) (gq ys q) := by
  obtain ⟨r, hr, hp⟩ := iter_inv (f := slices_insertionSortC_F.loop1 T (sQ id N n cp t) (a : Int) v)
    (Inv := fun st => ∃ (j : Nat) (ys : List Fct), st = ((j : Int), hQ sl id e ys) ∧ a ≤ j ∧ j ≤ i ∧ ys.length = N ∧ ys.Perm xs ∧ (∀ p, ¬ (a ≤ p ∧ p ≤ i) → gq ys p = gq xs p) ∧ gq ys j = gq xs i ∧
      (∀ p, a ≤ p → p ≤ i → p ≠ j → ∃ p', a ≤ p' ∧ p' < i ∧ gq ys p = gq xs p') ∧ (∀ p q, a ≤ p → p < q → q ≤ i → p ≠ j → q ≠ j → lt (gq ys p) (gq ys q)) ∧ ∀ q, j < q → q ≤ i → lt (gq ys j) (gq ys q))
    (Post := fun r => ∃ ys, r = (.ex0 (), hQ sl id e ys) ∧ ys.length = N ∧ ys.Perm xs ∧ (∀ p, ¬ (a ≤ p ∧ p ≤ i) → gq ys p = gq xs p) ∧
      (∀ p, a ≤ p → p ≤ i → ∃ p', a ≤ p' ∧ p' ≤ i ∧ gq ys p = gq xs p') ∧ ∀ p q, a ≤ p → p < q → q ≤ i → lt (gq ys p) (gq ys q))
    (fun st => st.1.toNat) (fun st hi' => by
      obtain ⟨j, ys, rfl, haj, hji, hl, hpm, hout, hj, hE, hso, hbe⟩ := hi'
      have hE' : ∀ p, a ≤ p → p ≤ i → ∃ p', a ≤ p' ∧ p' ≤ i ∧ gq ys p = gq xs p' := fun p h1 h2 => by
        by_cases ee : p = j
        · subst ee; exact ⟨i, hai, Nat.le_refl _, hj⟩
        · obtain ⟨p', k1, k2, k3⟩ := hE p h1 h2 ee; exact ⟨p', k1, by omega, k3⟩
      by_cases hlt : a < j
      · have hDj : D (gq ys j) := by rw [hj]; exact hD i hai (Nat.le_refl _)
        obtain ⟨p', e1, e2, e3⟩ := hE (j - 1) (by omega) (by omega) (by omega)
        have hDp : D (gq ys (j - 1)) := by rw [e3]; exact hD p' e1 (by omega)
        have hsays : SaysQ c lt (gq ys j) (gq ys (j - 1)) := by rw [hj, e3]; exact hcmp p' e1 e2
        by_cases hless : c (gq ys j) (gq ys (j - 1)) < 0
        · left
          have hlt2 := hsays.1 hless
          refine ⟨(((j - 1 : Nat) : Int), hQ sl id e (swq j (j - 1) ys)), ?_, ⟨j - 1, _, rfl, by omega, by omega, by rw [swq_length, hl], (swq_perm (by omega) (by omega)).trans hpm, fun p hp => ?_, ?_, fun p h1 h2 h3 => ?_, fun p q h1 h2 h3 h4 h5 => ?_, fun q h1 h2 => ?_⟩, by simp only [Int.toNat_natCast]; omega⟩
          · unfold slices_insertionSortC_F.loop1
            try simp -implicitDefEqProofs only [reserve0, sQ_a, sQ_len]
            rw [decide_eq_true (by omega), cond_true, i64q (z := (j : Int) - 1) (m := j - 1) (by omega) (by omega), Int.toNat_natCast, Int.toNat_natCast, guardO_pos (by omega), rdQ hid hl (by omega)]
            try simp -implicitDefEqProofs only [Option.bind_some, low, rowSV_len, rowSV_cap, rowSV_tail]
            rw [guardO_pos (by omega), rdQ hid hl (by omega)]
            try simp -implicitDefEqProofs only [Option.bind_some, low, rowSV_len, rowSV_cap, rowSV_tail]
            rw [hc _ _ ys hDj hDp hl]
            try simp -implicitDefEqProofs only [packQ, Option.bind_some]
            rw [decide_eq_true hless]
            try simp -implicitDefEqProofs only [cond_true]
            rw [guardO_pos (by omega), rdQ hid hl (by omega)]
            try simp -implicitDefEqProofs only [Option.bind_some, low, rowSV_len, rowSV_cap, rowSV_tail]
            rw [guardO_pos (by omega), rdQ hid hl (by omega)]
            try simp -implicitDefEqProofs only [Option.bind_some, low, rowSV_len, rowSV_cap, rowSV_tail]
            rw [guardO_pos (by omega), wrQ hid hl (by omega)]
            try simp -implicitDefEqProofs only [Option.bind_some, low, rowSV_len, rowSV_cap, rowSV_tail]
            rw [guardO_pos (by omega), wrQ hid (by simpa using hl) (by omega)]
            rfl
          · rw [gq_swq (by omega) (by omega), if_neg (by omega), if_neg (by omega)]
            exact hout p hp
          · rw [gq_swq (by omega) (by omega), if_pos rfl, hj]
          · rw [gq_swq (by omega) (by omega), if_neg h3]
            by_cases ee : p = j
            · subst ee; rw [if_pos rfl]; exact ⟨p', e1, e2, e3⟩
            · rw [if_neg ee]; exact hE p h1 h2 ee
          · rw [gq_swq (by omega) (by omega), gq_swq (by omega) (by omega), if_neg h4, if_neg h5]
            by_cases ee : p = j
            · subst ee
              rw [if_pos rfl, if_neg (by omega)]
              exact hso (p - 1) q (by omega) (by omega) h3 (by omega) (by omega)
            · rw [if_neg ee]
              by_cases e' : q = j
              · subst e'
                rw [if_pos rfl]
                exact hso p (q - 1) h1 (by omega) (by omega) (by omega) (by omega)
              · rw [if_neg e']
                exact hso p q h1 h2 h3 ee e'
          · rw [gq_swq (by omega) (by omega), gq_swq (by omega) (by omega), if_pos rfl, if_neg (by omega)]
            by_cases ee : q = j
            · subst ee; rw [if_pos rfl]; exact hlt2
            · rw [if_neg ee]; exact hbe q (by omega) h2
        · right
          refine ⟨(.ex0 (), hQ sl id e ys), ?_, ys, rfl, hl, hpm, hout, hE', fun p q h1 h2 h3 => ?_⟩
          · unfold slices_insertionSortC_F.loop1
            try simp -implicitDefEqProofs only [reserve0, sQ_a, sQ_len]
            rw [decide_eq_true (by omega), cond_true, i64q (z := (j : Int) - 1) (m := j - 1) (by omega) (by omega), Int.toNat_natCast, Int.toNat_natCast, guardO_pos (by omega), rdQ hid hl (by omega)]
            try simp -implicitDefEqProofs only [Option.bind_some, low, rowSV_len, rowSV_cap, rowSV_tail]
            rw [guardO_pos (by omega), rdQ hid hl (by omega)]
            try simp -implicitDefEqProofs only [Option.bind_some, low, rowSV_len, rowSV_cap, rowSV_tail]
            rw [hc _ _ ys hDj hDp hl]
            try simp -implicitDefEqProofs only [packQ, Option.bind_some]
            rw [decide_eq_false hless]
            rfl
          · have hge := hsays.2 hless
            by_cases ee : q = j
            · subst ee
              by_cases e' : p = q - 1
              · subst e'; exact hge
              · exact htr _ _ _ (hso p (q - 1) h1 (by omega) (by omega) (by omega) (by omega)) hge
            · by_cases e' : p = j
              · subst e'; exact hbe q h2 h3
              · exact hso p q h1 h2 h3 e' ee
      · right
        refine ⟨(.ex0 (), hQ sl id e ys), ?_, ys, rfl, hl, hpm, hout, hE', fun p q h1 h2 h3 => ?_⟩
        · unfold slices_insertionSortC_F.loop1
          try simp -implicitDefEqProofs only [reserve0]
          rw [decide_eq_false (by omega)]
          rfl
        · by_cases e' : p = j
          · subst e'; exact hbe q h2 h3
          · exact hso p q h1 h2 h3 e' (by omega)) FUEL ((i : Int), hQ sl id e xs)
    ⟨i, xs, rfl, hai, Nat.le_refl _, hn, .refl _, fun _ _ => rfl, rfl, fun p h1 h2 h3 => ⟨p, h1, by omega, rfl⟩, fun p q h1 h2 h3 h4 h5 => hs p q h1 h2 (by omega), fun q h1 h2 => by omega⟩ (fuel_gt (by
      simp only [Int.toNat_natCast]
      omega))
  obtain ⟨ys, rfl, k⟩ := hp
  exact ⟨ys, hr, k⟩
theorem insQ_ok (hid : id < sl.length) (hn63 : N < 4611686018427387904) (hc : CmpQ T v sl id e N D c) (htr : ∀ x y z, lt x y → lt y z → lt x z) {xs : List Fct} (hn : xs.length = N) (hnN : n ≤ N) {a b : Nat} (hab : a ≤ b) (hb : b ≤ n)
    (hD : ∀ k, a ≤ k → k < b → D (gq xs k)) (hcmp : ∀ p q, a ≤ p → p < q → q < b → SaysQ c lt (gq xs q) (gq xs p)) :
    ∃ ys, slices_insertionSortC_F T (sQ id N n cp t) (a : Int) (b : Int) v (hQ sl id e xs) = some ((), hQ sl id e ys) ∧ ys.length = N ∧ ys.Perm xs ∧ (∀ p, ¬ (a ≤ p ∧ p < b) → gq ys p = gq xs p) ∧
      (∀ p, a ≤ p → p < b → ∃ p', a ≤ p' ∧ p' < b ∧ gq ys p = gq xs p') ∧ ∀ p q, a ≤ p → p < q → q < b → lt (gq ys p) (gq ys q) := by
  obtain ⟨r, hr, hp⟩ := iter_inv (f := slices_insertionSortC_F.loop2 T (sQ id N n cp t) (a : Int) (b : Int) v)
    (Inv := fun st => ∃ (i : Nat) (ys : List Fct), st = ((i : Int), hQ sl id e ys) ∧ a < i ∧ (i ≤ b ∨ i = a + 1) ∧ ys.length = N ∧ ys.Perm xs ∧ (∀ p, ¬ (a ≤ p ∧ p < i ∧ p < b) → gq ys p = gq xs p) ∧
      (∀ p, a ≤ p → p < i → p < b → ∃ p', a ≤ p' ∧ p' < i ∧ p' < b ∧ gq ys p = gq xs p') ∧ ∀ p q, a ≤ p → p < q → q < i → q < b → lt (gq ys p) (gq ys q))
    (Post := fun r => ∃ ys, r = (.ex0 (), hQ sl id e ys) ∧ ys.length = N ∧ ys.Perm xs ∧ (∀ p, ¬ (a ≤ p ∧ p < b) → gq ys p = gq xs p) ∧
      (∀ p, a ≤ p → p < b → ∃ p', a ≤ p' ∧ p' < b ∧ gq ys p = gq xs p') ∧ ∀ p q, a ≤ p → p < q → q < b → lt (gq ys p) (gq ys q))
    (fun st => n + 1 - st.1.toNat) (fun st hi' => by
      obtain ⟨i, ys, rfl, hai, hib, hl, hpm, hout, hE, hso⟩ := hi'
      by_cases hlt : i < b
      · left
        obtain ⟨zs, h1, h2, h3, h4, h5, h6⟩ := insQ_inner (t := t) hid hn63 hc htr hl hnN (a := a) (i := i) (by omega) (by omega) (fun k k1 k2 => by
            by_cases ee : k < i
            · obtain ⟨p', e1, e2, e3, e4⟩ := hE k k1 ee (by omega)
              rw [e4]; exact hD p' e1 e3
            · rw [hout k (by omega)]; exact hD k k1 (by omega)) (fun p q k1 k2 k3 => hso p q k1 k2 k3 (by omega)) (fun p k1 k2 => by
            obtain ⟨p', e1, e2, e3, e4⟩ := hE p k1 k2 (by omega)
            rw [e4, hout i (by omega)]
            exact hcmp p' i e1 e2 hlt)
        refine ⟨(((i + 1 : Nat) : Int), hQ sl id e zs), ?_, ⟨i + 1, zs, rfl, by omega, by omega, h2, h3.trans hpm, fun p hp => ?_, fun p k1 k2 k3 => ?_, fun p q k1 k2 k3 k4 => h6 p q k1 k2 (by omega)⟩, by simp only [Int.toNat_natCast]; omega⟩
        · unfold slices_insertionSortC_F.loop2
          try simp -implicitDefEqProofs only []
          rw [decide_eq_true (by omega), cond_true, h1]
          try simp -implicitDefEqProofs only [Option.bind_some, low, rowSV_len, rowSV_cap, rowSV_tail]
          rw [i64_succ (by omega)]
        · rw [h4 p (by omega), hout p (by omega)]
        · obtain ⟨p', e1, e2, e3⟩ := h5 p k1 (by omega)
          rw [e3]
          by_cases ee : p' < i
          · obtain ⟨p2, f1, f2, f3, f4⟩ := hE p' e1 ee (by omega)
            exact ⟨p2, f1, by omega, f3, f4⟩
          · exact ⟨p', e1, by omega, by omega, hout p' (by omega)⟩
      · right
        refine ⟨(.ex0 (), hQ sl id e ys), ?_, ys, rfl, hl, hpm, fun p hp => hout p (by omega), fun p k1 k2 => ?_, fun p q k1 k2 k3 => hso p q k1 k2 (by omega) k3⟩
        · unfold slices_insertionSortC_F.loop2
          try simp -implicitDefEqProofs only []
          rw [decide_eq_false (by omega)]
          rfl
        · obtain ⟨p', e1, e2, e3, e4⟩ := hE p k1 (by omega) k2
          exact ⟨p', e1, e3, e4⟩) FUEL (((a + 1 : Nat) : Int), hQ sl id e xs)
    ⟨a + 1, xs, rfl, by omega, .inr rfl, hn, .refl _, fun _ _ => rfl, fun p h1 h2 h3 => ⟨p, h1, h2, h3, rfl⟩, fun p q h1 h2 h3 h4 => by omega⟩ (fuel_gt (by
      simp only [Int.toNat_natCast]
      omega))
  obtain ⟨ys, rfl, k⟩ := hp
  refine ⟨ys, ?_, k⟩
  unfold slices_insertionSortC_F
  rw [i64q (z := (a : Int) + 1) (m := a + 1) (by omega) (by omega), hr]
  rfl
end sort
theorem Copied_ok (x : Fct) (h : smallF x) : fact_copiedP x = some x := by
  obtain ⟨a, b, c, d, e, g⟩ := x
  obtain ⟨h1, h2⟩ := h
  simp only at h1 h2
  have c1 : cloneP 8 e = some e := by unfold cloneP; rw [guardO_pos ⟨by unfold roomCells; omega, by omega⟩]
  have c2 : cloneP 16 g = some g := by unfold cloneP; rw [guardO_pos ⟨by unfold roomCells; omega, by omega⟩]
  unfold fact_copiedP fact_copied
  try simp -implicitDefEqProofs only [evs, reduceIte, rdRes, rdTT, rdTy, rdLT, Res.un, TT.un, Ty.un, LT.un, Leaf.un, Leaf.plain, LT.plain, evh, List.replicate, splice, LT.pack, Leaf.pack, Nat.reduceAdd, Nat.reduceSub, Nat.reduceLeDiff, Nat.reduceLT, Nat.reduceEqDiff, LT.lo, Leaf.lo, Option.bind_some, row_ints, row_texts, res_ints, res_texts, c1, c2]
theorem le_unique {α : Type} {c : α → α → Int} (t : TO c) : ∀ {l l' : List α}, l.Perm l' → l.Pairwise (fun a b => c a b ≤ 0) → l'.Pairwise (fun a b => c a b ≤ 0) → l = l'
  | [], l', hp, _, _ => hp.nil_eq
  | x :: l, l', hp, h1, h2 => by
    cases l' with
    | nil => exact absurd hp.symm.nil_eq (by simp)
    | cons y l' =>
      obtain ⟨a1, a2⟩ := List.pairwise_cons.1 h1
      obtain ⟨b1, b2⟩ := List.pairwise_cons.1 h2
      have hxy : x = y := by
        by_cases e : x = y
        · exact e
        have hx : x ∈ l' := by
          rcases List.mem_cons.1 (hp.mem_iff.1 (List.mem_cons_self)) with h | h
          · exact absurd h e
          · exact h
        have hy : y ∈ l := by
          rcases List.mem_cons.1 (hp.mem_iff.2 (List.mem_cons_self)) with h | h
          · exact absurd h.symm e
          · exact h
        have k1 := a1 y hy
        have k2 := b1 x hx
        have k3 := t.anti x y
        have k4 := t.anti y x
        exact t.zero x y (by omega)
      subst hxy
      rw [le_unique t (List.Perm.cons_inv hp) a2 b2]
theorem TO.le_trans {α : Type} {c : α → α → Int} (t : TO c) {x y z : α} (h : c x y ≤ 0) (k : c y z ≤ 0) : c x z ≤ 0 := by
  rcases Int.lt_or_eq_of_le h with h | h
  · rcases Int.lt_or_eq_of_le k with k | k
    · exact Int.le_of_lt (t.trans _ _ _ h k)
    · rw [← t.zero _ _ k]; exact Int.le_of_lt h
  · rw [t.zero _ _ h]; exact k
theorem insB_le {α : Type} {c : α → α → Int} (t : TO c) {x : α} : ∀ {l : List α}, l.Pairwise (fun a b => c a b ≤ 0) → (insB c x l).Pairwise (fun a b => c a b ≤ 0)
  | [], _ => by simp [insB]
  | y :: l, h => by
    obtain ⟨h1, h2⟩ := List.pairwise_cons.1 h
    unfold insB
    split
    · rename_i hle
      refine List.pairwise_cons.2 ⟨fun z hz => ?_, h⟩
      rcases List.mem_cons.1 hz with rfl | hz
      · exact hle
      · exact t.le_trans hle (h1 z hz)
    · rename_i hgt
      refine List.pairwise_cons.2 ⟨fun z hz => ?_, insB_le t h2⟩
      rcases List.mem_cons.1 (insB_perm.mem_iff.1 hz) with rfl | hz
      · have := t.anti y z; omega
      · exact h1 z hz
theorem sortB_le {α : Type} {c : α → α → Int} (t : TO c) : ∀ {l : List α}, (sortB c l).Pairwise (fun a b => c a b ≤ 0)
  | [] => List.Pairwise.nil
  | x :: l => insB_le t (sortB_le t)
abbrev sortF (l : List Fct) : List Fct := sortB cmpF l
theorem sort_is {l ys : List Fct} (hp : ys.Perm l) (hs : ys.Pairwise fun a b => cmpF a b ≤ 0) : ys = sortF l := le_unique cmpF_to (hp.trans sortB_perm.symm) hs (sortB_le cmpF_to)
theorem cmpQ_ok {T : Table} {sl : List Slot} {id e N : Nat} {D : Fct → Prop} (hT : ∀ x y {R : Type} (k : V → H → Option R) h, D x → callV T.dy (.func 33 []) [argF true x, argF true y] h k = (fact_CompareP x y).bind fun r => k (.int .i64 r) h) (hD : ∀ x, D x → okF x = true) : CmpQ T (.func 33 []) sl id e N D cmpF := by
  intro x y xs hx hy hxs R k
  rw [hT x y k _ hx, Compare_ok x y (hD x hx)]
  rfl
theorem call33 {T : Table} (hT : T.dy.fn 33 = fact_CompareP.e) (x y : Fct) {R : Type} (k : V → H → Option R) (h : H) : callV T.dy (.func 33 []) [argF true x, argF true y] h k = (fact_CompareP x y).bind fun r => k (.int .i64 r) h := by
  show (T.dy.fn 33).cps [argF true x, argF true y] h k = _
  rw [hT]
  show (rdTTK true h [.agg FC, .agg FC] [argF true x, argF true y] fun z => (fact_CompareP z.1 z.2).bind fun r => k ((Res.one (.leaf (.int .i64))).lo true r) h) = _
  rw [rdTTK_bind]
  have h1 : rdLT true h FC (LT.lo true FC x) = some x := rdLT_lo rfl FC x rfl
  have h2 : rdLT true h FC (LT.lo true FC y) = some y := rdLT_lo rfl FC y rfl
  have : rdTT true h [.agg FC, .agg FC] [argF true x, argF true y] = some (x, y) := by
    show (rdLT true h FC (LT.lo true FC x)).bind (fun x => (rdLT true h FC (LT.lo true FC y)).bind fun y => some (x, y)) = _
    rw [h1, h2]; rfl
  rw [this]
  rfl
theorem Stable_ok {T : Table} {sl : List Slot} {id e n cp : Nat} {t : Bool} {xs : List Fct} (hid : id < sl.length) (hT : T.dy.fn 33 = fact_CompareP.e) (hn : xs.length = n) (h19 : n ≤ 19) (hok : ∀ x ∈ xs, okF x = true) :
    slices_SortStableFunc_F2 T (sQ id n n cp t) (.func 33 []) (hQ sl id e xs) = some ((), hQ sl id e (sortF xs)) := by
  obtain ⟨ys, h1, h2, h3, h4, h5, h6⟩ := insQ_ok (T := slices_stableC_F.tb (slices_SortStableFunc_F2.tb T)) (v := .func 33 []) (sl := sl) (id := id) (e := e) (N := n) (n := n) (cp := cp) (t := t) (D := fun x => okF x = true) (c := cmpF) (lt := fun a b => cmpF a b ≤ 0) hid (by omega)
    (cmpQ_ok (fun x y R k h hx => call33 (T := slices_stableC_F.tb (slices_SortStableFunc_F2.tb T)) hT x y k h) fun x hx => hx) (fun x y z => cmpF_to.le_trans) hn (Nat.le_refl _) (a := 0) (b := n) (Nat.zero_le _) (Nat.le_refl _)
    (fun k _ hk => hok _ (by rw [gq_eq (by omega)]; exact List.getElem_mem _)) (fun p q _ hpq hq => ⟨fun h => Int.le_of_lt h, fun h => by have := cmpF_to.anti (gq xs q) (gq xs p); have := cmpF_to.anti (gq xs p) (gq xs q); omega⟩)
  have hys : ys = sortF xs := sort_is h3 (List.pairwise_iff_getElem.2 fun i j hi hj hij => by
    have := h6 i j (Nat.zero_le _) hij (by omega)
    rwa [gq_eq hi, gq_eq hj] at this)
  subst hys
  unfold slices_SortStableFunc_F2 slices_stableC_F
  have l1 : iter FUEL (slices_stableC_F.loop1 (slices_SortStableFunc_F2.tb T) (sQ id n n cp t) (n : Int) (.func 33 [])) ((0, 20), hQ sl id e xs) = some (.ex0 0, hQ sl id e xs) :=
    iter_run (fun _ => ((0, 20), hQ sl id e xs)) 0 FUEL (fun i hi => by omega) (by
      unfold slices_stableC_F.loop1
      try simp -implicitDefEqProofs only []
      rw [decide_eq_false (by omega), cond_false]) (fuel_gt (by omega))
  have l3 : ∀ h, iter FUEL (slices_stableC_F.loop3 (slices_SortStableFunc_F2.tb T) (sQ id n n cp t) (n : Int) (.func 33 [])) (20, h) = some (.ex0 (), h) := fun h =>
    iter_run (fun _ => (20, h)) 0 FUEL (fun i hi => by omega) (by
      unfold slices_stableC_F.loop3
      try simp -implicitDefEqProofs only []
      rw [decide_eq_false (by omega), cond_false]) (fuel_gt (by omega))
  simp only [sQ_len]
  rw [l1, Option.bind_some]
  simp only
  rw [show (0 : Int) = ((0 : Nat) : Int) from rfl, h1, Option.bind_some]
  simp only
  rw [l3]
  rfl
theorem hQ_self {sl : List Slot} {id e : Nat} {xs : List Fct} (h : sl[id]? = some (.own (cellsL FC xs) e)) : hQ sl id e xs = hL sl := by
  unfold hQ
  congr 1
  apply List.ext_getElem?
  intro j
  by_cases hj : j = id
  · subst hj; rw [List.getElem?_set_self (List.getElem?_eq_some_iff.1 h).1, h]
  · rw [List.getElem?_set_ne (by omega)]
theorem copies_at {a : SV} (l : List Fct) (hl : l.length ≤ 2 ^ 20) (hs : ∀ x ∈ l, smallF x) (sl0 : List Slot) (ha : a.len = l.length)
    (hsrc : ∀ i (hi : i < l.length) (sl : List Slot), (∀ j, j < sl0.length → sl[j]? = sl0[j]?) → ∃ f, rdT (.agg FS) (hL sl) (V.add a.a (i * 6)) = some (low f l[i])) :
    ∃ sl s o, iter FUEL (fact_Sort.loop1 a) ((⟨.nil, 0, 0, false⟩, 0), hL sl0) = some (.ex0 s, hL sl) ∧ Acc sl FC l s o ∧ (∀ j, j < sl0.length → sl[j]? = sl0[j]?) ∧ ∀ id, o = some id → sl0.length ≤ id := by
  obtain ⟨r, hr, hp⟩ := iter_inv (f := fact_Sort.loop1 a) (Inv := fun st => ∃ (i : Nat) (s : SV) (sl : List Slot) (o : Option Nat), st = ((s, (i : Int)), hL sl) ∧ i ≤ l.length ∧ Acc sl FC (l.take i) s o ∧ (∀ j, j < sl0.length → sl[j]? = sl0[j]?) ∧ (∀ id, o = some id → sl0.length ≤ id) ∧ sl0.length ≤ sl.length)
    (Post := fun r => ∃ sl s o, r = (.ex0 s, hL sl) ∧ Acc sl FC l s o ∧ (∀ j, j < sl0.length → sl[j]? = sl0[j]?) ∧ ∀ id, o = some id → sl0.length ≤ id) (fun st => l.length - st.1.2.toNat) (fun st hi => by
      obtain ⟨i, s, sl, o, rfl, hil, acc, old, ho, hsl⟩ := hi
      by_cases hlt : i < l.length
      · left
        have hx : l[i]? = some l[i] := List.getElem?_eq_getElem hlt
        obtain ⟨f, hf⟩ := hsrc i hlt sl old
        have acc1 : Acc (sl ++ [cFt f l[i]]) FC (l.take i) s o := acc.more
        obtain ⟨s', sl', id', k1, k2, k3, k4, k5⟩ := acc1.append (w := 6) (b := 80) (x := l[i]) (vs := LT.lo true FC l[i]) rfl (by decide) (by rw [List.length_take]; omega) (by omega) rfl
        have q := (rds_cFt (sl := sl ++ [cFt f l[i]]) (id := sl.length) (x := l[i]) (f := f) (by simp)).1
        have hw := wr_new (sl := sl) (e := 6) (g := 6) (i := sl.length) (cs := [.int .i64 0, .int .i64 0, .int .i64 0, .int .i64 0, .slice .nil 0 0 false, .slice .nil 0 0 false]) (vs := LT.lo f FC l[i]) rfl rfl rfl
        refine ⟨((s', ((i + 1 : Nat) : Int)), hL sl'), ?_, ⟨i + 1, s', sl', some id', rfl, by omega, ?_, fun j hj => ?_, fun id e => ?_, ?_⟩, by simp only [Int.toNat_natCast]; omega⟩
        · unfold fact_Sort.loop1
          try simp -implicitDefEqProofs only [ha, Int.toNat_natCast]
          rw [decide_eq_true (by omega), cond_true, guardO_pos (by omega), hf]
          try simp -implicitDefEqProofs only [Option.bind_some, Option.map_some, low, rowSV_len, rowSV_cap, rowSV_tail, hL_new, hL_next]
          have hw' : H.wrs (hL (sl ++ [.own [.int .i64 0, .int .i64 0, .int .i64 0, .int .i64 0, .slice .nil 0 0 false, .slice .nil 0 0 false] 6])) (.hp sl.length 6 0) [.int .i64 l[i].1, .int .i64 l[i].2.1, .int .i64 l[i].2.2.1, .int .i64 l[i].2.2.2.1, .slice (rowSV f j1 l[i].2.2.2.2.1).a l[i].2.2.2.2.1.length l[i].2.2.2.2.1.length true, .slice (rowSV f t1 l[i].2.2.2.2.2).a l[i].2.2.2.2.2.length l[i].2.2.2.2.2.length true] = some (hL (sl ++ [cFt f l[i]])) := hw
          rw [hw', Option.bind_some, q, Option.bind_some]
          try simp -implicitDefEqProofs only [low, row_ints', row_texts', Option.bind_some]
          rw [Copied_ok _ (hs _ (List.getElem_mem hlt)), Option.bind_some]
          have k1' : appendS (hL (sl ++ [cFt f l[i]])) none 6 80 s [.int .i64 l[i].1, .int .i64 l[i].2.1, .int .i64 l[i].2.2.1, .int .i64 l[i].2.2.2.1, .slice (rowSV true j1 l[i].2.2.2.2.1).a l[i].2.2.2.2.1.length l[i].2.2.2.2.1.length true, .slice (rowSV true t1 l[i].2.2.2.2.2).a l[i].2.2.2.2.2.length l[i].2.2.2.2.2.length true] 1 = some (s', hL sl') := k1
          rw [k1', Option.bind_some, i64_suc (by omega)]
        · have : l.take (i + 1) = l.take i ++ [l[i]] := by rw [List.take_add_one, hx]; rfl
          rw [this]
          exact k2
        · rw [k5 j (fun e => by have := ho j e; omega) (by rw [List.length_append]; omega), List.getElem?_append_left (by omega), old j hj]
        · cases e
          rcases k3 with h | ⟨_, h⟩
          · exact ho _ h
          · rw [h, List.length_append]; omega
        · rw [List.length_append] at k4; omega
      · right
        have : i = l.length := by omega
        subst this
        refine ⟨(.ex0 s, hL sl), ?_, sl, s, o, rfl, by rw [List.take_length] at acc; exact acc, old, ho⟩
        unfold fact_Sort.loop1
        try simp -implicitDefEqProofs only [ha]
        rw [decide_eq_false (by omega), cond_false]) FUEL ((⟨.nil, 0, 0, false⟩, 0), hL sl0) ⟨0, _, sl0, none, rfl, Nat.zero_le _, Acc.nil, fun _ _ => rfl, (fun _ e => by cases e), Nat.le_refl _⟩ (fuel_gt (by simp only [Int.toNat_zero]; omega))
  obtain ⟨sl, s, o, rfl, hacc, old, ho⟩ := hp
  exact ⟨sl, s, o, hr, hacc, old, ho⟩
theorem Sort_at {a : SV} (l : List Fct) (hl : l.length ≤ 19) (hs : ∀ x ∈ l, smallF x) (sl0 : List Slot) (ha : a.len = l.length)
    (hsrc : ∀ i (hi : i < l.length) (sl : List Slot), (∀ j, j < sl0.length → sl[j]? = sl0[j]?) → ∃ f, rdT (.agg FS) (hL sl) (V.add a.a (i * 6)) = some (low f l[i])) :
    ∃ sl s o, fact_Sort a (hL sl0) = some (s, hL sl) ∧ Acc sl FC (sortF l) s o ∧ (∀ j, j < sl0.length → sl[j]? = sl0[j]?) ∧ ∀ id, o = some id → sl0.length ≤ id := by
  obtain ⟨sl, s, o, h1, hacc, old, ho⟩ := copies_at l (by omega) hs sl0 ha hsrc
  unfold fact_Sort
  rw [h1, Option.bind_some]
  simp only
  cases o with
  | none =>
    obtain ⟨rfl, hnl⟩ := hacc
    refine ⟨sl, s, none, ?_, ⟨rfl, hnl⟩, old, ho⟩
    have hlen : s.len = 0 := by rcases hnl with rfl | rfl <;> rfl
    have : slices_SortStableFunc_F2 fact_Sort.tb s (.func 33 []) (hL sl) = some ((), hL sl) := by
      unfold slices_SortStableFunc_F2 slices_stableC_F slices_insertionSortC_F
      rw [hlen]
      have l1 : iter FUEL (slices_stableC_F.loop1 (slices_SortStableFunc_F2.tb fact_Sort.tb) s ((0 : Nat) : Int) (.func 33 [])) ((0, 20), hL sl) = some (.ex0 0, hL sl) :=
        iter_run (fun _ => ((0, 20), hL sl)) 0 FUEL (fun i hi => by omega) (by
          unfold slices_stableC_F.loop1
          try simp -implicitDefEqProofs only []
          rw [decide_eq_false (by omega), cond_false]) (fuel_gt (by omega))
      have l3 : iter FUEL (slices_stableC_F.loop3 (slices_SortStableFunc_F2.tb fact_Sort.tb) s ((0 : Nat) : Int) (.func 33 [])) (20, hL sl) = some (.ex0 (), hL sl) :=
        iter_run (fun _ => (20, hL sl)) 0 FUEL (fun i hi => by omega) (by
          unfold slices_stableC_F.loop3
          try simp -implicitDefEqProofs only []
          rw [decide_eq_false (by omega), cond_false]) (fuel_gt (by omega))
      have l2 : iter FUEL (slices_insertionSortC_F.loop2 (slices_stableC_F.tb (slices_SortStableFunc_F2.tb fact_Sort.tb)) s 0 ((0 : Nat) : Int) (.func 33 [])) (IntKind.i64.wrap (0 + 1), hL sl) = some (.ex0 (), hL sl) :=
        iter_run (fun _ => (IntKind.i64.wrap (0 + 1), hL sl)) 0 FUEL (fun i hi => by omega) (by
          unfold slices_insertionSortC_F.loop2
          try simp -implicitDefEqProofs only []
          rw [decide_eq_false (by decide), cond_false]) (fuel_gt (by omega))
      rw [l1, Option.bind_some]
      simp only
      rw [l2, Option.bind_some]
      simp only [Option.bind_some]
      rw [l3]
      rfl
    rw [this]
    rfl
  | some id =>
    obtain ⟨h2, rfl, h4⟩ := hacc
    have hid := (List.getElem?_eq_some_iff.1 h4).1
    have hst := Stable_ok (T := fact_Sort.tb) (sl := sl) (id := id) (e := 6) (n := l.length) (cp := l.length) (t := true) (xs := l) hid rfl rfl hl (fun x hx => small_ok (hs x hx))
    rw [hQ_self (e := 6) h4] at hst
    have hst' : slices_SortStableFunc_F2 fact_Sort.tb (ownSV id FC l.length) (.func 33 []) (hL sl) = some ((), hQ sl id 6 (sortF l)) := hst
    have hpl : (sortF l).length = l.length := sortB_perm.length_eq
    refine ⟨sl.set id (.own (cellsL FC (sortF l)) 6), ownSV id FC l.length, some id, ?_, ⟨by omega, by rw [hpl], by rw [List.getElem?_set_self hid]; rfl⟩, fun j hj => by rw [List.getElem?_set_ne (by have := ho id rfl; omega), old j hj], ho⟩
    rw [hst', Option.bind_some]
    rfl
theorem src_row {f : Bool} {l : List Fct} {i : Nat} (hi : i < l.length) (sl : List Slot) : rdT (.agg FS) (hL sl) (V.add (rowSV f FC l).a (i * 6)) = some (low f l[i]) := by
  rw [rd_fact, List.getElem?_eq_getElem hi]; rfl
theorem Sort_ok (l : List Fct) (hl : l.length ≤ 19) (hs : ∀ x ∈ l, smallF x) (sl0 : List Slot) : ∃ sl s o, fact_Sort (rowSV false FC l) (hL sl0) = some (s, hL sl) ∧ Acc sl FC (sortF l) s o := by
  obtain ⟨sl, s, o, h1, h2, _⟩ := Sort_at (a := rowSV false FC l) l hl hs sl0 rfl fun i hi sl _ => ⟨false, src_row hi sl⟩
  exact ⟨sl, s, o, h1, h2⟩
theorem Same_ok (x y : Fct) (hx : okF x = true) : arrival_sameP x y = some (decide (cmpF x y = 0)) := by
  have C := Compare_ok x y hx
  obtain ⟨a0, a1, a2, a3, a4, a5⟩ := x
  obtain ⟨b0, b1, b2, b3, b4, b5⟩ := y
  unfold arrival_sameP arrival_same
  try simp -implicitDefEqProofs only [evs, reduceIte, rdRes, rdTT, rdTy, rdLT, Res.un, TT.un, Ty.un, LT.un, Leaf.un, Leaf.plain, LT.plain, evh, List.replicate, splice, LT.pack, Leaf.pack, Nat.reduceAdd, Nat.reduceSub, Nat.reduceLeDiff, Nat.reduceLT, Nat.reduceEqDiff, LT.lo, Leaf.lo, Option.bind_some, row_ints, row_texts, C]
theorem call70 {T : Table} (hT : T.dy.fn 70 = arrival_sameP.e) (x y : Fct) (hx : okF x = true) {R : Type} (k : V → H → Option R) (h : H) : callV T.dy (.func 70 []) [argF true x, argF true y] h k = k (.bool (decide (cmpF x y = 0))) h := by
  show (T.dy.fn 70).cps [argF true x, argF true y] h k = _
  rw [hT]
  show (rdTTK true h [.agg FC, .agg FC] [argF true x, argF true y] fun z => (arrival_sameP z.1 z.2).bind fun r => k ((Res.one (.leaf .bool)).lo true r) h) = _
  rw [rdTTK_bind]
  have h1 : rdLT true h FC (LT.lo true FC x) = some x := rdLT_lo rfl FC x rfl
  have h2 : rdLT true h FC (LT.lo true FC y) = some y := rdLT_lo rfl FC y rfl
  have : rdTT true h [.agg FC, .agg FC] [argF true x, argF true y] = some (x, y) := by
    show (rdLT true h FC (LT.lo true FC x)).bind (fun x => (rdLT true h FC (LT.lo true FC y)).bind fun y => some (x, y)) = _
    rw [h1, h2]; rfl
  rw [this, Option.bind_some, Same_ok x y hx]
  rfl
def compG (p : Fct) : List Fct → List Fct
  | [] => []
  | y :: l => if cmpF y p = 0 then compG y l else y :: compG y l
def compF : List Fct → List Fct
  | [] => []
  | x :: l => x :: compG x l
theorem compG_snoc : ∀ (l : List Fct) (p y : Fct), compG p (l ++ [y]) = compG p l ++ (if cmpF y (l.getLastD p) = 0 then [] else [y])
  | [], p, y => by simp only [List.nil_append, compG, List.getLastD_nil]; rfl
  | x :: l, p, y => by
    simp only [List.cons_append, compG, compG_snoc l x y, List.getLastD_cons]
    split <;> rfl
theorem compF_take {xs : List Fct} {m : Nat} (h0 : 0 < m) (hm : m < xs.length) : compF (xs.take (m + 1)) = compF (xs.take m) ++ (if cmpF (gq xs m) (gq xs (m - 1)) = 0 then [] else [gq xs m]) := by
  cases xs with
  | nil => simp at hm
  | cons x l =>
    obtain ⟨m, rfl⟩ : ∃ k, m = k + 1 := ⟨m - 1, by omega⟩
    simp only [List.length_cons] at hm
    rw [List.take_succ_cons, List.take_succ_cons]
    have e1 : gq (x :: l) (m + 1) = gq l m := rfl
    have e2 : l.take (m + 1) = l.take m ++ [gq l m] := by rw [List.take_add_one, gq_some (by omega)]; rfl
    have e3 : gq (x :: l) (m + 1 - 1) = (l.take m).getLastD x := by
      cases m with
      | zero => rfl
      | succ k =>
        rw [show k + 1 + 1 - 1 = k + 1 from rfl, show gq (x :: l) (k + 1) = gq l k from rfl, List.take_add_one, gq_some (by omega)]
        simp
    rw [e1, e2, e3]
    simp only [compF, compG_snoc, List.cons_append]
theorem compF_len : ∀ (xs : List Fct), (compF xs).length ≤ xs.length := by
  have : ∀ (l : List Fct) (p : Fct), (compG p l).length ≤ l.length := fun l => by
    induction l with
    | nil => intro p; simp [compG]
    | cons y l ih =>
      intro p
      simp only [compG]
      have := ih y
      split <;> simp only [List.length_cons] <;> omega
  intro xs
  cases xs with
  | nil => simp [compF]
  | cons x l => simp only [compF, List.length_cons]; have := this l x; omega
theorem flat6 (xs : List Fct) : (cellsL FC xs).length = xs.length * 6 := flat_length (ls := FC) xs
theorem take6 (xs : List Fct) (i : Nat) : (cellsL FC xs).take (i * 6) = cellsL FC (xs.take i) := by
  have h := congrArg (cellsL FC) (List.take_append_drop i xs)
  simp only [cellsL, List.flatMap_append] at h
  by_cases hi : i ≤ xs.length
  · show (xs.flatMap fun x => LT.lo true FC x).take (i * 6) = _
    rw [← h, List.take_left']
    have := flat6 (xs.take i)
    rw [List.length_take, Nat.min_eq_left hi] at this
    exact this
  · rw [List.take_of_length_le (by rw [flat6]; omega), List.take_of_length_le (by omega)]
theorem rd_prefix {lp : Bool} {sl : List Slot} {id e N c : Nat} {t : Bool} {zs : List Fct} {rest : List V} (hs : sl[id]? = some (.own (cellsL FC zs ++ rest) e)) (hn : (cellsL FC zs ++ rest).length = N * 6) :
    rdRow lp (hL sl) FC ⟨.hp id (N * 6) 0, zs.length, c, t⟩ = some zs := by
  by_cases h0 : zs.length = 0
  · have : zs = [] := List.eq_nil_of_length_eq_zero h0
    subst this
    exact rdRow_nil
  · unfold rdRow
    simp only [rdLeaf, if_neg h0]
    have hrd : (hL sl).rds (.hp id (N * 6) 0) (zs.length * FC.length) = some (cellsL FC zs) := by
      simp only [H.rds, H.from, hL_m, hs, Option.getD_some, hn, if_true, List.drop_zero, Option.bind_some]
      have := flat6 zs
      rw [if_pos ⟨by simp only [List.length_append] at hn; show zs.length * 6 ≤ N * 6; omega, by show zs.length * 6 ≠ 0; omega⟩]
      show some (List.take (zs.length * 6) (cellsL FC zs ++ rest)) = _
      rw [List.take_left' this]
    show (bif true then (hL sl).rds (.hp id (N * 6) 0) (zs.length * FC.length) else none).bind _ = _
    rw [cond_true, hrd, Option.bind_some, chunks_flat]
    have : ∀ (ys : List Fct), mapO (fun c => rdLT lp (hL sl) FC c) (ys.map fun x => LT.lo true FC x) = some ys := fun ys => by
      induction ys with
      | nil => rfl
      | cons y ys ih => simp only [List.map_cons, mapO, rdLT_lo (f := true) (lp := lp) (by simp) FC y rfl, Option.bind_some, ih]
    exact this zs
theorem rep_len (z : List V) (n : Nat) : (repeatCells z n).length = n * z.length := by
  induction n with
  | zero => simp [repeatCells]
  | succ n ih => simp only [repeatCells, List.length_append, ih, Nat.add_mul, Nat.one_mul] <;> omega
section compact
variable {T : Table} {sl : List Slot} {id N : Nat} {xs : List Fct}
theorem rdQ2 (hid : id < sl.length) {e : Nat} {ys : List Fct} {k0 k : Nat} (hn : ys.length = N) (hk : k0 + k < N) : rdT (.agg FS) (hQ sl id e ys) (V.add (V.add (.hp id (N * 6) 0) (k0 * 6)) (k * 6)) = some (low true (gq ys (k0 + k))) := by
  have := rdQ (sl := sl) (id := id) (e := e) (N := N) hid (xs := ys) (k := k0 + k) hn hk
  rw [Nat.add_mul, ← add_add] at this
  exact this
theorem compact_inner (hid : id < sl.length) (hT : T.dy.fn 70 = arrival_sameP.e) (hn : xs.length = N) (hN : N ≤ 2 ^ 20) (hok : ∀ x ∈ xs, okF x = true) {k0 : Nat} (hk0 : 0 < k0) (hk : k0 < N) (hpre : compF (xs.take (k0 + 1)) = xs.take k0) :
    ∃ i ys, iter FUEL (slices_CompactFunc_F2.loop1 T (sQ id N N N true) (.func 70 []) (k0 : Int)) (((k0 : Int), 1), hQ sl id 6 xs) = some (.ex0 ((i : Nat) : Int), hQ sl id 6 ys) ∧ ys.length = N ∧ i ≤ N ∧ ys.take i = compF xs := by
  obtain ⟨r, hr, hp⟩ := iter_inv (f := slices_CompactFunc_F2.loop1 T (sQ id N N N true) (.func 70 []) (k0 : Int))
    (Inv := fun st => ∃ (i k : Nat) (ys : List Fct), st = (((i : Int), (k : Int)), hQ sl id 6 ys) ∧ 1 ≤ k ∧ k0 + k ≤ N ∧ k0 ≤ i ∧ i ≤ k0 + k - 1 ∧ ys.length = N ∧ (∀ j, k0 + k - 1 ≤ j → gq ys j = gq xs j) ∧ ys.take i = compF (xs.take (k0 + k)))
    (Post := fun r => ∃ (i : Nat) (ys : List Fct), r = (.ex0 ((i : Nat) : Int), hQ sl id 6 ys) ∧ ys.length = N ∧ i ≤ N ∧ ys.take i = compF xs) (fun st => N - st.1.2.toNat) (fun st hi => by
      obtain ⟨i, k, ys, rfl, h1, h2, h3, h4, h5, h6, h7⟩ := hi
      have hz : Int.toNat (N : Int) - Int.toNat (k0 : Int) = N - k0 := by simp only [Int.toNat_natCast]
      by_cases hlt : k < N - k0
      · left
        have g1 := h6 (k0 + k) (by omega)
        have g2 := h6 (k0 + (k - 1)) (by omega)
        have okx : ∀ j, j < N → okF (gq xs j) = true := fun j hj => hok _ (by rw [gq_eq (by omega)]; exact List.getElem_mem _)
        have htk := compF_take (xs := xs) (m := k0 + k) (by omega) (by omega)
        by_cases hc : cmpF (gq xs (k0 + k)) (gq xs (k0 + (k - 1))) = 0
        · refine ⟨(((i : Int), ((k + 1 : Nat) : Int)), hQ sl id 6 ys), ?_, ⟨i, k + 1, ys, rfl, by omega, by omega, h3, by omega, h5, fun j hj => h6 j (by omega), ?_⟩, by simp only [Int.toNat_natCast]; omega⟩
          · unfold slices_CompactFunc_F2.loop1
            try simp -implicitDefEqProofs only [reserve0, sQ_a, sQ_len, hz]
            rw [decide_eq_true (by omega), cond_true, guardO_pos (by omega), Int.toNat_natCast, Int.toNat_natCast, rdQ2 hid h5 (by omega)]
            try simp -implicitDefEqProofs only [Option.bind_some]
            rw [i64q (z := (k : Int) - 1) (m := k - 1) (by omega) (by omega), guardO_pos (by omega), Int.toNat_natCast, rdQ2 hid h5 (by omega)]
            try simp -implicitDefEqProofs only [Option.bind_some, low, rowSV_len, rowSV_cap, rowSV_tail]
            rw [g1, g2, call70 hT _ _ (okx _ (by omega)), decide_eq_true hc]
            try simp -implicitDefEqProofs only [Res.pack, Ty.pack, Leaf.pack, Option.bind_some, Bool.not_true, cond_false]
            rw [i64_suc (by omega)]
          · rw [h7, show k0 + (k + 1) = k0 + k + 1 by omega, htk, show k0 + k - 1 = k0 + (k - 1) by omega, if_pos hc, List.append_nil]
        · refine ⟨((((i + 1 : Nat) : Int), ((k + 1 : Nat) : Int)), hQ sl id 6 (ys.set i (gq xs (k0 + k)))), ?_, ⟨i + 1, k + 1, _, rfl, by omega, by omega, by omega, by omega, by rw [List.length_set, h5], fun j hj => ?_, ?_⟩, by simp only [Int.toNat_natCast]; omega⟩
          · unfold slices_CompactFunc_F2.loop1
            try simp -implicitDefEqProofs only [reserve0, sQ_a, sQ_len, hz]
            rw [decide_eq_true (by omega), cond_true, guardO_pos (by omega), Int.toNat_natCast, Int.toNat_natCast, rdQ2 hid h5 (by omega)]
            try simp -implicitDefEqProofs only [Option.bind_some]
            rw [i64q (z := (k : Int) - 1) (m := k - 1) (by omega) (by omega), guardO_pos (by omega), Int.toNat_natCast, rdQ2 hid h5 (by omega)]
            try simp -implicitDefEqProofs only [Option.bind_some, low, rowSV_len, rowSV_cap, rowSV_tail]
            rw [g1, g2, call70 hT _ _ (okx _ (by omega)), decide_eq_false hc]
            try simp -implicitDefEqProofs only [Res.pack, Ty.pack, Leaf.pack, Option.bind_some, Bool.not_false, cond_true]
            rw [guardO_pos (by omega), rdQ2 hid h5 (by omega)]
            try simp -implicitDefEqProofs only [Option.bind_some, low, rowSV_len, rowSV_cap, rowSV_tail]
            rw [guardO_pos (by omega), g1, Int.toNat_natCast, wrQ hid h5 (by omega)]
            try simp -implicitDefEqProofs only [Option.bind_some]
            rw [i64_suc (by omega), i64_suc (by omega)]
          · rw [gq_set (by omega), if_neg (by omega)]
            exact h6 j (by omega)
          · rw [show k0 + (k + 1) = k0 + k + 1 by omega, htk, show k0 + k - 1 = k0 + (k - 1) by omega, if_neg hc, ← h7, List.take_add_one, List.take_set_of_le (Nat.le_refl _)]
            rw [List.getElem?_set_self (by omega)]
            rfl
      · right
        have hkN : k0 + k = N := by omega
        refine ⟨_, ?_, i, ys, rfl, h5, by omega, by rw [h7, hkN, ← hn, List.take_length]⟩
        unfold slices_CompactFunc_F2.loop1
        try simp -implicitDefEqProofs only [sQ_len, hz]
        rw [decide_eq_false (by omega), cond_false]) FUEL (((k0 : Int), 1), hQ sl id 6 xs)
    ⟨k0, 1, xs, rfl, Nat.le_refl _, by omega, Nat.le_refl _, by omega, hn, fun _ _ => rfl, hpre.symm⟩ (fuel_gt (by
      have : Int.toNat 1 = 1 := rfl
      simp only [this]; omega))
  obtain ⟨i, ys, rfl, k1, k2, k3⟩ := hp
  exact ⟨i, ys, hr, k1, k2, k3⟩
theorem Compact_ok (hid : id < sl.length) (hT : T.dy.fn 70 = arrival_sameP.e) (hn : xs.length = N) (hN : N ≤ 2 ^ 20) (hpos : 0 < N) (hok : ∀ x ∈ xs, okF x = true) :
    ∃ s sl' rest, slices_CompactFunc_F2 T (sQ id N N N true) (.func 70 []) (hQ sl id 6 xs) = some (s, hL sl') ∧ s = sQ id N (compF xs).length N true ∧ sl'[id]? = some (.own (cellsL FC (compF xs) ++ rest) 6) ∧ (cellsL FC (compF xs) ++ rest).length = N * 6 ∧ sl' = sl.set id (.own (cellsL FC (compF xs) ++ rest) 6) := by
  have whole : ∀ (h : compF xs = xs), ∃ s sl' rest, some (sQ id N N N true, hQ sl id 6 xs) = some (s, hL sl') ∧ s = sQ id N (compF xs).length N true ∧ sl'[id]? = some (.own (cellsL FC (compF xs) ++ rest) 6) ∧ (cellsL FC (compF xs) ++ rest).length = N * 6 ∧ sl' = sl.set id (.own (cellsL FC (compF xs) ++ rest) 6) := fun h =>
    ⟨_, _, [], rfl, by rw [h, hn], by rw [h, List.append_nil, List.getElem?_set_self hid], by rw [h, List.append_nil, flat6, hn], by rw [h, List.append_nil]⟩
  have okx : ∀ j, j < N → okF (gq xs j) = true := fun j hj => hok _ (by rw [gq_eq (by omega)]; exact List.getElem_mem _)
  unfold slices_CompactFunc_F2
  simp only [sQ_len]
  by_cases h2 : (N : Int) < 2
  · rw [decide_eq_true h2, cond_true]
    refine whole ?_
    match xs, hn with
    | [x], _ => rfl
    | [], h => simp only [List.length_nil] at h; omega
    | _ :: _ :: _, h => simp only [List.length_cons] at h; omega
  · rw [decide_eq_false h2, cond_false]
    obtain ⟨r, hr, hp⟩ := iter_inv (f := slices_CompactFunc_F2.loop2 T (sQ id N N N true) (.func 70 []))
      (Inv := fun st => ∃ (k : Nat), st = ((k : Int), hQ sl id 6 xs) ∧ 1 ≤ k ∧ k ≤ N ∧ compF (xs.take k) = xs.take k)
      (Post := fun r => (r = (.ex0 (), hQ sl id 6 xs) ∧ compF xs = xs) ∨ ∃ sl' rest, r = (.ret (sQ id N (compF xs).length N true), hL sl') ∧ sl'[id]? = some (.own (cellsL FC (compF xs) ++ rest) 6) ∧ (cellsL FC (compF xs) ++ rest).length = N * 6 ∧ sl' = sl.set id (.own (cellsL FC (compF xs) ++ rest) 6)) (fun st => N - st.1.toNat) (fun st hi => by
        obtain ⟨k, rfl, h1, h2, h3⟩ := hi
        by_cases hlt : k < N
        · have htk := compF_take (xs := xs) (m := k) (by omega) (by omega)
          by_cases hc : cmpF (gq xs k) (gq xs (k - 1)) = 0
          · right
            obtain ⟨i, ys, q1, q2, q3, q4⟩ := compact_inner (T := T) hid hT hn hN hok (k0 := k) (by omega) hlt (by rw [htk, if_pos hc, List.append_nil, h3])
            have hi : i = (compF xs).length := by rw [← q4, List.length_take]; omega
            have hcl : i = N ∨ i < N := by omega
            obtain ⟨sl', rest, w1, w2, w3, w4⟩ : ∃ sl' rest, clearH (hQ sl id 6 ys) (V.add (.hp id (N * 6) 0) (i * 6)) [.int .i64 0, .int .i64 0, .int .i64 0, .int .i64 0, .slice .nil 0 0 false, .slice .nil 0 0 false] (N - i) = some (hL sl') ∧ sl'[id]? = some (.own (cellsL FC (compF xs) ++ rest) 6) ∧ (cellsL FC (compF xs) ++ rest).length = N * 6 ∧ sl' = sl.set id (.own (cellsL FC (compF xs) ++ rest) 6) := by
              unfold clearH
              by_cases h0 : N - i = 0
              · rw [if_pos h0]
                have : ys = compF xs := by rw [← q4, List.take_of_length_le (by omega)]
                refine ⟨_, [], rfl, by rw [List.append_nil, ← this, List.getElem?_set_self hid], by rw [List.append_nil, ← this, flat6, q2], by rw [List.append_nil, ← this]⟩
              · rw [if_neg h0]
                have hrl : (repeatCells [.int .i64 0, .int .i64 0, .int .i64 0, .int .i64 0, .slice .nil 0 0 false, .slice .nil 0 0 false] (N - i)).length = (N - i) * 6 := rep_len _ _
                have spl : splice (cellsL FC ys) (i * 6) (repeatCells [.int .i64 0, .int .i64 0, .int .i64 0, .int .i64 0, .slice .nil 0 0 false, .slice .nil 0 0 false] (N - i)) = cellsL FC (compF xs) ++ repeatCells [.int .i64 0, .int .i64 0, .int .i64 0, .int .i64 0, .slice .nil 0 0 false, .slice .nil 0 0 false] (N - i) := by
                  unfold splice
                  rw [take6, q4, List.drop_eq_nil_of_le (by rw [flat6, q2, hrl]; omega), List.append_nil]
                refine ⟨(sl.set id (.own (cellsL FC ys) 6)).set id (.own (splice (cellsL FC ys) (i * 6) (repeatCells [.int .i64 0, .int .i64 0, .int .i64 0, .int .i64 0, .slice .nil 0 0 false, .slice .nil 0 0 false] (N - i))) 6), repeatCells [.int .i64 0, .int .i64 0, .int .i64 0, .int .i64 0, .slice .nil 0 0 false, .slice .nil 0 0 false] (N - i), ?_, ?_, ?_, by rw [List.set_set, spl]⟩
                · rw [add_hpQ]
                  unfold hQ
                  rw [wrs_own (cs := cellsL FC ys) (e := 6) (List.getElem?_set_self hid) (by rw [flat6, q2]) (by rw [hrl]; omega)]
                · rw [List.getElem?_set_self (by rw [List.length_set]; exact hid)]
                  rw [spl]
                · rw [List.length_append, hrl, flat6, ← hi]; omega
            refine ⟨_, ?_, .inr ⟨sl', rest, rfl, w2, w3, w4⟩⟩
            unfold slices_CompactFunc_F2.loop2
            try simp -implicitDefEqProofs only [reserve0, sQ_a, sQ_len]
            rw [decide_eq_true (by omega), cond_true, guardO_pos (by omega), Int.toNat_natCast, rdQ hid hn (by omega)]
            try simp -implicitDefEqProofs only [Option.bind_some]
            rw [i64q (z := (k : Int) - 1) (m := k - 1) (by omega) (by omega), guardO_pos (by omega), Int.toNat_natCast, rdQ hid hn (by omega)]
            try simp -implicitDefEqProofs only [Option.bind_some, low, rowSV_len, rowSV_cap, rowSV_tail]
            rw [call70 hT _ _ (okx _ (by omega)), decide_eq_true hc]
            try simp -implicitDefEqProofs only [Res.pack, Ty.pack, Leaf.pack, Option.bind_some, cond_true]
            rw [guardO_pos ⟨by omega, by omega, by omega⟩, q1, Option.bind_some]
            simp only
            rw [guardO_pos ⟨by omega, by omega, by omega⟩, Int.toNat_natCast, Int.toNat_natCast, w1, Option.bind_some, guardO_pos ⟨by omega, by omega, by omega⟩, hi]
            rfl
          · left
            refine ⟨(((k + 1 : Nat) : Int), hQ sl id 6 xs), ?_, ⟨k + 1, rfl, by omega, by omega, ?_⟩, by simp only [Int.toNat_natCast]; omega⟩
            · unfold slices_CompactFunc_F2.loop2
              try simp -implicitDefEqProofs only [reserve0, sQ_a, sQ_len]
              rw [decide_eq_true (by omega), cond_true, guardO_pos (by omega), Int.toNat_natCast, rdQ hid hn (by omega)]
              try simp -implicitDefEqProofs only [Option.bind_some]
              rw [i64q (z := (k : Int) - 1) (m := k - 1) (by omega) (by omega), guardO_pos (by omega), Int.toNat_natCast, rdQ hid hn (by omega)]
              try simp -implicitDefEqProofs only [Option.bind_some, low, rowSV_len, rowSV_cap, rowSV_tail]
              rw [call70 hT _ _ (okx _ (by omega)), decide_eq_false hc]
              try simp -implicitDefEqProofs only [Res.pack, Ty.pack, Leaf.pack, Option.bind_some, cond_false]
              rw [i64_suc (by omega)]
            · rw [htk, if_neg hc, h3, List.take_add_one, gq_some (by omega)]
              rfl
        · right
          have : k = N := by omega
          subst this
          refine ⟨(.ex0 (), hQ sl id 6 xs), ?_, .inl ⟨rfl, by rw [← hn, List.take_length] at h3; exact h3⟩⟩
          unfold slices_CompactFunc_F2.loop2
          try simp -implicitDefEqProofs only [sQ_len]
          rw [decide_eq_false (by omega), cond_false]) FUEL (1, hQ sl id 6 xs) ⟨1, rfl, Nat.le_refl _, by omega, by
          cases xs with
          | nil => simp only [List.length_nil] at hn; omega
          | cons x l => rfl⟩ (fuel_gt (by
          have : Int.toNat 1 = 1 := rfl
          simp only [this]; omega))
    rw [hr, Option.bind_some]
    rcases hp with ⟨rfl, h⟩ | ⟨sl', rest, rfl, h3, h4, h5⟩
    · exact whole h
    · exact ⟨_, sl', rest, rfl, rfl, h3, h4, h5⟩
end compact
abbrev onceF (l : List Fct) : List Fct := compF (sortF l)
theorem Set_ok (l : List Fct) (hl : l.length ≤ 19) (hs : ∀ x ∈ l, smallF x) : arrival_setP l = some (onceF l) := by
  obtain ⟨sl, s, o, h1, hacc⟩ := Sort_ok l hl hs []
  unfold arrival_setP arrival_set
  rw [hL_empty, h1, Option.bind_some]
  simp only
  cases o with
  | none =>
    obtain ⟨h2, hs⟩ := hacc
    have hlen : s.len = 0 := by rcases hs with rfl | rfl <;> rfl
    have : slices_CompactFunc_F2 arrival_set.tb s (.func 70 []) (hL sl) = some (s, hL sl) := by
      unfold slices_CompactFunc_F2
      rw [hlen]
      rfl
    rw [this, show onceF l = [] by unfold onceF; rw [h2]; rfl]
    simp only [Option.bind_some]
    rcases hs with rfl | rfl <;> rfl
  | some id =>
    obtain ⟨h2, rfl, h4⟩ := hacc
    have hpl : (sortF l).length = l.length := sortB_perm.length_eq
    have hid := (List.getElem?_eq_some_iff.1 h4).1
    obtain ⟨s', sl', rest, k1, rfl, k3, k4, _⟩ := Compact_ok (T := arrival_set.tb) (sl := sl) (id := id) (N := (sortF l).length) (xs := sortF l) hid rfl rfl (by omega) h2 (fun x hx => small_ok (hs x (sortB_perm.mem_iff.1 hx)))
    rw [hQ_self (e := 6) h4] at k1
    have k1' : slices_CompactFunc_F2 arrival_set.tb (ownSV id FC (sortF l).length) (.func 70 []) (hL sl) = some (sQ id (sortF l).length (onceF l).length (sortF l).length true, hL sl') := k1
    rw [k1', Option.bind_some]
    exact rd_prefix (lp := false) k3 k4
abbrev SlT : Ty := .leaf .slice
abbrev LowC := LT FS
theorem key_eq (x y : Ky) : KeyT.keyEq x y = decide (x = y) := by
  obtain ⟨a, b, c⟩ := x
  obtain ⟨a', b', c'⟩ := y
  show (decide (a = a') && (decide (b = b') && decide (c = c'))) = _
  by_cases h1 : a = a' <;> by_cases h2 : b = b' <;> by_cases h3 : c = c' <;> simp [h1, h2, h3]
theorem place_key {β : Type} (x : Ky) : ∀ l : List (Ky × β), placeG KeyT x l = l.findIdx? fun p => decide (x = p.1)
  | [] => rfl
  | p :: l => by
    simp only [placeG, List.findIdx?_cons, key_eq, place_key x l]
    cases decide (x = p.1) <;> rfl
theorem un_rows : ∀ l : List (Ky × SV), unG KeyT SlT (upG KeyT SlT l) = some l
  | [] => rfl
  | p :: l => by
    show (KeyT.pack (KeyT.un p.1)).bind (fun x => (SlT.pack (SlT.un p.2)).bind fun y => (unG KeyT SlT (upG KeyT SlT l)).bind fun l => some ((x, y) :: l)) = _
    rw [un_rows l]
    rfl
theorem un_facts : ∀ l : List (Ky × LowC), unG KeyT FactT (upG KeyT FactT l) = some l
  | [] => rfl
  | p :: l => by
    show (KeyT.pack (KeyT.un p.1)).bind (fun x => (FactT.pack (FactT.un p.2)).bind fun y => (unG KeyT FactT (upG KeyT FactT l)).bind fun l => some ((x, y) :: l)) = _
    rw [un_facts l]
    rfl
theorem gmap_rows {sl : List Slot} {mid : Nat} {l : List (Ky × SV)} (h : sl[mid]? = some (.gmap (upG KeyT SlT l))) : (hL sl).gmap mid KeyT SlT = some l := by
  simp only [H.gmap, hL_m, h, Option.getD_some, un_rows]
theorem gmap_facts {sl : List Slot} {mid : Nat} {l : List (Ky × LowC)} (h : sl[mid]? = some (.gmap (upG KeyT FactT l))) : (hL sl).gmap mid KeyT FactT = some l := by
  simp only [H.gmap, hL_m, h, Option.getD_some, un_facts]
abbrev FamR := Ky × Nat × List Fct
abbrev FamE := List FamR
def famE (E : FamE) : List (Ky × SV) := E.map fun e => (e.1, ownSV e.2.1 FC e.2.2.length)
def addE (k : Ky) (x : Fct) (n : Nat) (E : FamE) : FamE :=
  match E.findIdx? fun p => decide (k = p.1) with
  | some i => E.modify i fun e => (e.1, e.2.1, e.2.2 ++ [x])
  | none => E ++ [(k, n, [x])]
structure Fam (sl : List Slot) (mid lo : Nat) (f : Ky → List Fct) (E : FamE) : Prop where
  map : sl[mid]? = some (.gmap (upG KeyT SlT (famE E)))
  keys : ∀ (i j : Nat) (e e' : FamR), E[i]? = some e → E[j]? = some e' → e.1 = e'.1 → i = j
  ids : ∀ (i j : Nat) (e e' : FamR), E[i]? = some e → E[j]? = some e' → e.2.1 = e'.2.1 → i = j
  cells : ∀ (i : Nat) (e : FamR), E[i]? = some e → e.2.2 ≠ [] ∧ lo ≤ e.2.1 ∧ sl[e.2.1]? = some (.own (cellsL FC e.2.2) 6)
  fits : ∀ (i : Nat) (e : FamR), E[i]? = some e → e.2.2 = f e.1
  all : ∀ k, f k ≠ [] → ∃ (i : Nat) (e : FamR), E[i]? = some e ∧ e.1 = k
theorem Fam.nil {sl : List Slot} {mid lo : Nat} (h : sl[mid]? = some (.gmap [])) : Fam sl mid lo (fun _ => []) [] :=
  ⟨h, fun i j e e' h => by simp at h, fun i j e e' h => by simp at h, fun i e h => by simp at h, fun i e h => by simp at h, fun k h => absurd rfl h⟩
theorem Fam.frame {sl sl' : List Slot} {mid lo : Nat} {f : Ky → List Fct} {E : FamE} (F : Fam sl mid lo f E) (h : ∀ j, j = mid ∨ (∃ (i : Nat) (e : FamR), E[i]? = some e ∧ j = e.2.1) → sl'[j]? = sl[j]?) : Fam sl' mid lo f E :=
  ⟨by rw [h mid (.inl rfl)]; exact F.map, F.keys, F.ids, fun i e hi => by obtain ⟨h1, h2, h3⟩ := F.cells i e hi; exact ⟨h1, h2, by rw [h _ (.inr ⟨i, e, hi, rfl⟩)]; exact h3⟩, F.fits, F.all⟩
theorem Fam.lt {sl : List Slot} {mid lo : Nat} {f : Ky → List Fct} {E : FamE} (F : Fam sl mid lo f E) {i : Nat} {e : Ky × Nat × List Fct} (h : E[i]? = some e) : e.2.1 < sl.length := (List.getElem?_eq_some_iff.1 (F.cells i e h).2.2).1
theorem Fam.more {sl t : List Slot} {mid lo : Nat} {f : Ky → List Fct} {E : FamE} (F : Fam sl mid lo f E) : Fam (sl ++ t) mid lo f E :=
  F.frame fun j hj => by
    rcases hj with rfl | ⟨i, e, hi, rfl⟩
    · exact get_app (List.getElem?_eq_some_iff.1 F.map).1
    · exact get_app (F.lt hi)
theorem Fam.congr {sl : List Slot} {mid lo : Nat} {f g : Ky → List Fct} {E : FamE} (F : Fam sl mid lo f E) (h : ∀ k, f k = g k) : Fam sl mid lo g E := by
  have : f = g := funext h
  rw [← this]; exact F
theorem Fam.place {sl : List Slot} {mid lo : Nat} {f : Ky → List Fct} {E : FamE} (F : Fam sl mid lo f E) (k : Ky) :
    (∃ (i id : Nat) (xs : List Fct), E[i]? = some (k, id, xs) ∧ (E.findIdx? fun p => decide (k = p.1)) = some i ∧ xs = f k ∧ xs ≠ []) ∨ ((E.findIdx? fun p => decide (k = p.1)) = none ∧ f k = [] ∧ ∀ (i : Nat) (e : FamR), E[i]? = some e → e.1 ≠ k) := by
  cases h : E.findIdx? fun p => decide (k = p.1) with
  | none =>
    rw [List.findIdx?_eq_none_iff] at h
    have hk : ∀ (i : Nat) (e : FamR), E[i]? = some e → e.1 ≠ k := fun i e hi hk => by
      have := h e (List.mem_of_getElem? hi)
      simp [hk] at this
    refine .inr ⟨rfl, ?_, hk⟩
    by_cases hf : f k = []
    · exact hf
    · obtain ⟨i, e, hi, he⟩ := F.all k hf
      exact absurd he (hk i e hi)
  | some i =>
    rw [List.findIdx?_eq_some_iff_getElem] at h
    obtain ⟨hi, hp, _⟩ := h
    have hk : k = E[i].1 := by simpa using hp
    have hE : E[i]? = some (k, E[i].2.1, E[i].2.2) := by rw [List.getElem?_eq_getElem hi, hk]
    exact .inl ⟨i, _, _, hE, rfl, F.fits i _ hE, (F.cells i _ hE).1⟩
theorem mod_last {α : Type} (l : List α) (a : α) (g : α → α) : (l ++ [a]).modify l.length g = l ++ [g a] := by
  induction l with
  | nil => rfl
  | cons b l ih => simpa using ih
theorem place_famE (k : Ky) (E : FamE) : placeG KeyT k (famE E) = E.findIdx? fun p => decide (k = p.1) := by
  rw [place_key]
  unfold famE
  rw [List.findIdx?_map]
  rfl
theorem Fam.step {sl : List Slot} {mid lo : Nat} {f : Ky → List Fct} {E : FamE} (F : Fam sl mid lo f E) (hm : mid < lo) (hlo : lo ≤ sl.length) (k : Ky) (x : Fct) {vs : List V} (hv : vs = LT.lo true FC x) (hsz : (f k).length + 1 ≤ 2 ^ 36) :
    ∃ s i sl1 s' sl2 sl3, entG (hL sl) mid KeyT SlT ⟨.nil, 0, 0, false⟩ k = some ((s, i), hL sl1) ∧ appendS (hL sl1) none 6 80 s vs 1 = some (s', hL sl2) ∧ atG (hL sl2) mid KeyT SlT i s' = some (hL sl3) ∧
      Fam sl3 mid lo (fun k' => if k' = k then f k' ++ [x] else f k') (addE k x sl.length E) ∧ sl.length ≤ sl3.length ∧ (∀ j, j < sl.length → j ≠ mid → (∀ (i : Nat) (e : FamR), E[i]? = some e → j ≠ e.2.1) → sl3[j]? = sl[j]?) := by
  have hml := (List.getElem?_eq_some_iff.1 F.map).1
  have hg := gmap_rows F.map
  rcases F.place k with ⟨i, id, xs, hE, hidx, hxs, hne⟩ | ⟨hidx, hf, hno⟩
  · obtain ⟨_, hlid, hcell⟩ := F.cells i _ hE
    have hidl := F.lt hE
    simp only at hlid hcell hidl
    have hil := (List.getElem?_eq_some_iff.1 hE).1
    have hfam : (famE E)[i]? = some (k, ownSV id FC xs.length) := by unfold famE; rw [List.getElem?_map, hE]; rfl
    have hpos : 0 < xs.length := List.length_pos_iff.2 hne
    have hap := append_own (ls := FC) (xs := xs) (sl := sl) (id := id) (w := 6) (b := 80) (at_ := none) (x := x) (vs := vs) hcell rfl (by decide) hpos (by rw [hxs]; exact hsz) (by decide) hv
    have hmid : (sl.set id (.own (cellsL FC (xs ++ [x])) 6))[mid]? = some (.gmap (upG KeyT SlT (famE E))) := by rw [List.getElem?_set_ne (by omega)]; exact F.map
    have hadd : addE k x sl.length E = E.modify i fun e => (e.1, e.2.1, e.2.2 ++ [x]) := by unfold addE; rw [hidx]
    have hget : ∀ j, (addE k x sl.length E)[j]? = if j = i then some (k, id, xs ++ [x]) else E[j]? := fun j => by
      rw [hadd, List.getElem?_modify]
      by_cases hj : j = i
      · subst hj; rw [if_pos rfl, hE]; simp
      · have hij : ¬ i = j := fun e => hj e.symm
        rw [if_neg hj]
        cases E[j]? <;> simp [hij]
    have hback : ∀ j e, (addE k x sl.length E)[j]? = some e → ∃ e0, E[j]? = some e0 ∧ e.1 = e0.1 ∧ e.2.1 = e0.2.1 ∧ (j = i → e = (k, id, xs ++ [x])) ∧ (j ≠ i → e = e0) := fun j e he => by
      rw [hget] at he
      by_cases hj : j = i
      · subst hj; rw [if_pos rfl] at he; cases he
        exact ⟨_, hE, rfl, rfl, fun _ => rfl, fun h => absurd rfl h⟩
      · rw [if_neg hj] at he
        exact ⟨e, he, rfl, rfl, fun h => absurd h hj, fun _ => rfl⟩
    refine ⟨ownSV id FC xs.length, (i : Int), sl, ownSV id FC (xs ++ [x]).length, sl.set id (.own (cellsL FC (xs ++ [x])) 6), (sl.set id (.own (cellsL FC (xs ++ [x])) 6)).set mid (.gmap (upG KeyT SlT ((famE E).modify i fun p => (p.1, ownSV id FC (xs ++ [x]).length)))), ?_, hap, ?_, ?_, by simp, fun j hj hjm hje => ?_⟩
    · simp only [entG, hg, Option.map_some, place_famE, hidx, hfam, Option.getD_some]
    · simp only [atG, gmap_rows hmid, Option.bind_some]
      rw [guardO_pos ⟨by omega, by unfold famE; rw [List.length_map]; omega⟩, hL_put (by rw [List.length_set]; exact hml), Int.toNat_natCast]
    · refine ⟨?_, fun a b e e' ha hb hab => ?_, fun a b e e' ha hb hab => ?_, fun a e ha => ?_, fun a e ha => ?_, fun k' hk' => ?_⟩
      · rw [List.getElem?_set_self (by rw [List.length_set]; exact hml)]
        have : (famE E).modify i (fun p => (p.1, ownSV id FC (xs ++ [x]).length)) = famE (addE k x sl.length E) := by
          apply List.ext_getElem?
          intro j
          unfold famE
          rw [List.getElem?_map, hget, List.getElem?_modify, List.getElem?_map]
          by_cases hj : j = i
          · subst hj; rw [if_pos rfl, hE]; simp
          · have hij : ¬ i = j := fun e => hj e.symm
            rw [if_neg hj]
            cases E[j]? <;> simp [hij]
        rw [this]
      · obtain ⟨a0, a1, a2, _⟩ := hback a e ha
        obtain ⟨b0, b1, b2, _⟩ := hback b e' hb
        exact F.keys a b a0 b0 a1 b1 (by rw [← a2, ← b2]; exact hab)
      · obtain ⟨a0, a1, _, a2, _⟩ := hback a e ha
        obtain ⟨b0, b1, _, b2, _⟩ := hback b e' hb
        exact F.ids a b a0 b0 a1 b1 (by rw [← a2, ← b2]; exact hab)
      · obtain ⟨a0, a1, _, a2, a3, a4⟩ := hback a e ha
        by_cases hai : a = i
        · rw [a3 hai]
          refine ⟨by simp, hlid, ?_⟩
          simp only
          rw [List.getElem?_set_ne (by omega), List.getElem?_set_self hidl]
        · have ha0 := a4 hai
          subst ha0
          obtain ⟨c1, c2, c3⟩ := F.cells a e a1
          refine ⟨c1, c2, ?_⟩
          have : e.2.1 ≠ id := fun h => hai (F.ids a i e _ a1 hE h)
          rw [List.getElem?_set_ne (by omega), List.getElem?_set_ne (by omega)]
          exact c3
      · obtain ⟨a0, a1, _, a2, a3, a4⟩ := hback a e ha
        by_cases hai : a = i
        · rw [a3 hai]; simp only [if_true]; rw [hxs]
        · have ha0 := a4 hai
          subst ha0
          have : e.1 ≠ k := fun h => hai (F.keys a i e _ a1 hE h)
          rw [if_neg this]
          exact F.fits a e a1
      · by_cases hkk : k' = k
        · subst hkk
          exact ⟨i, _, by rw [hget, if_pos rfl], rfl⟩
        · rw [if_neg hkk] at hk'
          obtain ⟨j, e, hj, he⟩ := F.all k' hk'
          refine ⟨j, e, ?_, he⟩
          rw [hget, if_neg (fun hji => ?_)]
          · exact hj
          · subst hji; rw [hE] at hj; cases hj; exact hkk he.symm
    · rw [List.getElem?_set_ne (by omega), List.getElem?_set_ne (fun e => hje i _ hE e.symm)]
  · have hlen : (famE E).length = E.length := by unfold famE; rw [List.length_map]
    obtain ⟨slA, hA⟩ : ∃ slA, slA = sl.set mid (.gmap (upG KeyT SlT (famE E ++ [(k, nilSV)]))) := ⟨_, rfl⟩
    have hAl : slA.length = sl.length := by rw [hA, List.length_set]
    have hAm : slA[mid]? = some (.gmap (upG KeyT SlT (famE E ++ [(k, nilSV)]))) := by rw [hA, List.getElem?_set_self hml]
    have hAj : ∀ j, j ≠ mid → slA[j]? = sl[j]? := fun j hj => by rw [hA, List.getElem?_set_ne (by omega)]
    have hap := append_nil (ls := FC) (sl := slA) (w := 6) (b := 80) (x := x) (vs := vs) rfl (by decide) hv
    rw [hAl] at hap
    have hadd : addE k x sl.length E = E ++ [(k, sl.length, [x])] := by unfold addE; rw [hidx]
    have hget : ∀ j e, (addE k x sl.length E)[j]? = some e → E[j]? = some e ∨ (j = E.length ∧ e = (k, sl.length, [x])) := fun j e he => by
      rw [hadd] at he
      rcases Nat.lt_or_ge j E.length with h | h
      · rw [List.getElem?_append_left h] at he; exact .inl he
      · rw [List.getElem?_append_right h] at he
        have h0 : j - E.length = 0 := by
          cases hq : j - E.length with
          | zero => rfl
          | succ m => rw [hq] at he; simp at he
        rw [h0] at he
        simp at he
        exact .inr ⟨by omega, he.symm⟩
    have hlast : (addE k x sl.length E)[E.length]? = some (k, sl.length, [x]) := by rw [hadd]; simp
    have hmid : (slA ++ [.own (cellsL FC [x]) 6])[mid]? = some (.gmap (upG KeyT SlT (famE E ++ [(k, nilSV)]))) := by
      rw [get_app (by omega), hAm]
    refine ⟨⟨.nil, 0, 0, false⟩, (E.length : Int), slA, ownSV sl.length FC [x].length, slA ++ [Slot.own (cellsL FC [x]) 6],
      (slA ++ [Slot.own (cellsL FC [x]) 6]).set mid (.gmap (upG KeyT SlT ((famE E ++ [(k, nilSV)]).modify E.length fun p => (p.1, ownSV sl.length FC [x].length)))), ?_, hap, ?_, ?_, ?_, fun j hj hjm hje => ?_⟩
    · simp only [entG, hg, Option.map_some, place_famE, hidx, hlen]
      rw [hL_put hml, hA]
      rfl
    · simp only [atG, gmap_rows hmid, Option.bind_some]
      rw [guardO_pos ⟨by omega, by rw [List.length_append, hlen, List.length_singleton]; omega⟩, hL_put (by rw [List.length_append]; omega), Int.toNat_natCast]
    · refine ⟨?_, fun a b e e' ha hb hab => ?_, fun a b e e' ha hb hab => ?_, fun a e ha => ?_, fun a e ha => ?_, fun k' hk' => ?_⟩
      · rw [List.getElem?_set_self (by rw [List.length_append]; omega)]
        have : (famE E ++ [(k, nilSV)]).modify E.length (fun p => (p.1, ownSV sl.length FC [x].length)) = famE (addE k x sl.length E) := by
          rw [hadd, ← hlen, mod_last]
          unfold famE
          rw [List.map_append]
          rfl
        rw [this]
      · rcases hget a e ha with ha | ⟨rfl, rfl⟩ <;> rcases hget b e' hb with hb | ⟨rfl, rfl⟩
        · exact F.keys a b e e' ha hb hab
        · exact absurd hab (hno a e ha)
        · exact absurd hab.symm (hno b e' hb)
        · rfl
      · rcases hget a e ha with ha | ⟨rfl, rfl⟩ <;> rcases hget b e' hb with hb | ⟨rfl, rfl⟩
        · exact F.ids a b e e' ha hb hab
        · have := F.lt ha; simp only at hab; omega
        · have := F.lt hb; simp only at hab; omega
        · rfl
      · rcases hget a e ha with ha | ⟨rfl, rfl⟩
        · obtain ⟨c1, c2, c3⟩ := F.cells a e ha
          have := F.lt ha
          refine ⟨c1, c2, ?_⟩
          rw [List.getElem?_set_ne (by omega), get_app (by omega), hAj _ (by omega)]
          exact c3
        · refine ⟨by simp, hlo, ?_⟩
          simp only
          rw [List.getElem?_set_ne (by omega), List.getElem?_append_right (by omega), hAl, Nat.sub_self]
          rfl
      · rcases hget a e ha with ha | ⟨rfl, rfl⟩
        · rw [if_neg (hno a e ha)]
          exact F.fits a e ha
        · simp only [if_true, hf, List.nil_append]
      · by_cases hkk : k' = k
        · subst hkk
          exact ⟨E.length, _, hlast, rfl⟩
        · rw [if_neg hkk] at hk'
          obtain ⟨j, e, hj, he⟩ := F.all k' hk'
          exact ⟨j, e, by rw [hadd, List.getElem?_append_left (List.getElem?_eq_some_iff.1 hj).1]; exact hj, he⟩
    · rw [List.length_set, List.length_append]; omega
    · rw [List.getElem?_set_ne (by omega), get_app (by omega), hAj _ hjm]
theorem Fam.look {sl : List Slot} {mid lo : Nat} {f : Ky → List Fct} {E : FamE} (F : Fam sl mid lo f E) (k : Ky) (z : SV) :
    (f k = [] ∧ lookG (hL sl) mid KeyT SlT z k = some (z, false)) ∨ ∃ id, f k ≠ [] ∧ lookG (hL sl) mid KeyT SlT z k = some (ownSV id FC (f k).length, true) ∧ sl[id]? = some (.own (cellsL FC (f k)) 6) ∧ lo ≤ id := by
  rcases F.place k with ⟨i, id, xs, hE, hidx, hxs, hne⟩ | ⟨hidx, hf, hno⟩
  · obtain ⟨_, hlid, hcell⟩ := F.cells i _ hE
    subst hxs
    refine .inr ⟨id, hne, ?_, hcell, hlid⟩
    have hfam : (famE E)[i]? = some (k, ownSV id FC (f k).length) := by unfold famE; rw [List.getElem?_map, hE]; rfl
    simp only [lookG, gmap_rows F.map, Option.map_some, valG, place_famE, hidx, hfam, Option.getD_some]
  · refine .inl ⟨hf, ?_⟩
    simp only [lookG, gmap_rows F.map, Option.map_some, valG, place_famE, hidx]
theorem Fam.mem {sl : List Slot} {mid lo : Nat} {f : Ky → List Fct} {E : FamE} (F : Fam sl mid lo f E) (k : Ky) : k ∈ E.map (·.1) ↔ f k ≠ [] := by
  constructor
  · intro h
    obtain ⟨e, he, rfl⟩ := List.mem_map.1 h
    obtain ⟨i, hi⟩ := List.mem_iff_getElem?.1 he
    rw [← F.fits i e hi]
    exact (F.cells i e hi).1
  · intro h
    obtain ⟨i, e, hi, rfl⟩ := F.all k h
    exact List.mem_map.2 ⟨e, List.mem_of_getElem? hi, rfl⟩
theorem Fam.nodup {sl : List Slot} {mid lo : Nat} {f : Ky → List Fct} {E : FamE} (F : Fam sl mid lo f E) : (E.map (·.1)).Pairwise fun a b => cmpK a b ≠ 0 := by
  rw [List.pairwise_map, List.pairwise_iff_getElem]
  intro i j hi hj hij h
  have := F.keys i j _ _ (List.getElem?_eq_getElem hi) (List.getElem?_eq_getElem hj) (cmpK_to.zero _ _ h)
  omega

end Go.Proofs.YtjkjcnadgpndoaaGreat
