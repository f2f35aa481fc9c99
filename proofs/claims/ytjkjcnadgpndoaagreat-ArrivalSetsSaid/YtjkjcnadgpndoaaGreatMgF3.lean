/- What the functions of this seat compute, and the evaluator: some texts in one. Conditions: those of each law. -/
import Derived.Test.YtjkjcnadgpndoaaGreatEvRow
import Derived.Test.YtjkjcnadgpndoaaGreatMgF2
namespace Go.Proofs.YtjkjcnadgpndoaaGreat
open Go Go.Proofs.YtjkjcnadgpndoaaGreat.Ev
set_option linter.unusedVariables false
set_option linter.unusedSimpArgs false
set_option maxRecDepth 100000
set_option maxHeartbeats 4000000
abbrev zF : List V := [.int .i64 0, .int .i64 0, .int .i64 0, .int .i64 0, .slice .nil 0 0 false, .slice .nil 0 0 false]
abbrev zK : List V := [.int .i64 0, .int .i64 0, .int .i64 0]
abbrev cKy (k : Ky) : Slot := .own [.int .i64 k.1, .int .i64 k.2.1, .int .i64 k.2.2] 3
abbrev cellsF (f : Bool) (x : Fct) : List V := [.int .i64 x.1, .int .i64 x.2.1, .int .i64 x.2.2.1, .int .i64 x.2.2.2.1, .slice (rowSV f j1 x.2.2.2.2.1).a x.2.2.2.2.1.length x.2.2.2.2.1.length true, .slice (rowSV f t1 x.2.2.2.2.2).a x.2.2.2.2.2.length x.2.2.2.2.2.length true]
theorem wr_fact {sl : List Slot} {f : Bool} {x : Fct} : H.wrs (hL (sl ++ [.own zF 6])) (.hp sl.length 6 0) (cellsF f x) = some (hL (sl ++ [cFt f x])) := wr_new rfl rfl rfl
theorem wr_key {sl : List Slot} {k : Ky} : H.wrs (hL (sl ++ [.own zK 3])) (.hp sl.length 3 0) [.int .i64 k.1, .int .i64 k.2.1, .int .i64 k.2.2] = some (hL (sl ++ [cKy k])) := wr_new rfl rfl rfl
theorem new_at {sl : List Slot} {s : Slot} : (sl ++ [s])[sl.length]? = some s := by simp
theorem rd_fact_key {f : Bool} {sl : List Slot} {id : Nat} {x : Fct} (h : sl[id]? = some (cFt f x)) : rdT KeyT (hL sl) (.hp id 6 0) = some (keyF x) := (rds_cFt h).2
theorem rd_fact_all {f : Bool} {sl : List Slot} {id : Nat} {x : Fct} (h : sl[id]? = some (cFt f x)) : rdT FactT (hL sl) (.hp id 6 0) = some (low f x) := (rds_cFt h).1
theorem rd_key_all {sl : List Slot} {id : Nat} {k : Ky} (h : sl[id]? = some (cKy k)) : rdT KeyT (hL sl) (.hp id 3 0) = some k := key_box h
theorem len_app1 {sl : List Slot} {s : Slot} : (sl ++ [s]).length = sl.length + 1 := by simp
theorem read1_round {h5 : H} {r : List Fct} {sl : List Slot} {E : FamE} {m lo i : Nat} {f : Ky → List Fct} {x : Fct} (hm : h5.next = m) (F : Fam sl m lo f E) (hml : m < lo) (hlo : lo ≤ sl.length) (hx : r[i]? = some x) (hr : r.length ≤ 2 ^ 20) (hf : (f (keyF x)).length ≤ 2 ^ 20) :
    ∃ sl2 E2, arrival_read.loop1 h5 r ((i : Int), hL sl) = some (.more (((i + 1 : Nat) : Int), hL sl2)) ∧ Fam sl2 m lo (fun k' => if k' = keyF x then f k' ++ [x] else f k') E2 ∧ lo ≤ sl2.length ∧ ∀ j, j < lo → j ≠ m → sl2[j]? = sl[j]? := by
  have hi := (List.getElem?_eq_some_iff.1 hx).1
  have F1 : Fam (sl ++ [cFt true x]) m lo f E := F.more
  obtain ⟨s, i', sl1, s', sl2, sl3, e1, e2, e3, F3, l3, g3⟩ := F1.step hml (by rw [len_app1]; omega) (keyF x) x (vs := cellsF true x) rfl (by omega)
  rw [len_app1] at l3 g3
  refine ⟨sl3, _, ?_, F3, by omega, fun j hj hjm => ?_⟩
  · unfold arrival_read.loop1
    try simp -implicitDefEqProofs only [Int.toNat_natCast, hm]
    rw [decide_eq_true (by omega), cond_true, guardO_pos (by omega), rd_fact, hx]
    try simp -implicitDefEqProofs only [Option.bind_some, Option.map_some, low, rowSV_len, rowSV_cap, rowSV_tail, hL_new, hL_next, wr_fact, rd_fact_key new_at, rd_fact_all new_at]
    rw [e1]
    try simp -implicitDefEqProofs only [Option.bind_some]
    rw [e2]
    try simp -implicitDefEqProofs only [Option.bind_some]
    rw [e3]
    try simp -implicitDefEqProofs only [Option.bind_some]
    rw [i64_suc (by omega)]
  · rw [g3 j (by omega) hjm (fun a e he => by have := (F.cells a e he).2.1; omega), get_app (by omega)]
def grp (r : List Fct) (k : Ky) : List Fct := r.filter fun f => decide (keyF f = k)
theorem grp_snoc (r : List Fct) (x : Fct) (k : Ky) : grp (r ++ [x]) k = if k = keyF x then grp r k ++ [x] else grp r k := by
  unfold grp
  rw [List.filter_append]
  by_cases h : k = keyF x
  · rw [if_pos h, h]; simp
  · rw [if_neg h]
    have : ¬ keyF x = k := fun e => h e.symm
    simp [this]
theorem take_snoc {α : Type} {l : List α} {i : Nat} {x : α} (h : l[i]? = some x) : l.take (i + 1) = l.take i ++ [x] := by rw [List.take_add_one, h]; rfl
theorem grp_len (r : List Fct) (k : Ky) : (grp r k).length ≤ r.length := List.length_filter_le _ _
theorem read1_ok {h5 : H} {r : List Fct} {sl : List Slot} {m lo : Nat} (hm : h5.next = m) (hs : sl[m]? = some (.gmap [])) (hml : m < lo) (hlo : lo ≤ sl.length) (hr : r.length ≤ 2 ^ 20) :
    ∃ sl2 E, iter FUEL (arrival_read.loop1 h5 r) (0, hL sl) = some (.ex0 (), hL sl2) ∧ Fam sl2 m lo (grp r) E ∧ lo ≤ sl2.length ∧ ∀ j, j < lo → j ≠ m → sl2[j]? = sl[j]? := by
  obtain ⟨q, hq, hp⟩ := iter_inv (f := arrival_read.loop1 h5 r) (Inv := fun st => ∃ (i : Nat) (sl2 : List Slot) (E : FamE), st = ((i : Int), hL sl2) ∧ i ≤ r.length ∧ Fam sl2 m lo (grp (r.take i)) E ∧ lo ≤ sl2.length ∧ ∀ j, j < lo → j ≠ m → sl2[j]? = sl[j]?)
    (Post := fun q => ∃ sl2 E, q = (.ex0 (), hL sl2) ∧ Fam sl2 m lo (grp r) E ∧ lo ≤ sl2.length ∧ ∀ j, j < lo → j ≠ m → sl2[j]? = sl[j]?) (fun st => r.length - st.1.toNat) (fun st hi => by
      obtain ⟨i, sl2, E, rfl, hil, F, hl2, g⟩ := hi
      by_cases hlt : i < r.length
      · left
        have hx : r[i]? = some r[i] := List.getElem?_eq_getElem hlt
        obtain ⟨sl3, E3, h1, F3, l3, g3⟩ := read1_round hm F hml hl2 hx hr (by have := grp_len (r.take i) (keyF r[i]); rw [List.length_take] at this; omega)
        refine ⟨_, h1, ⟨i + 1, sl3, E3, rfl, by omega, F3.congr fun k => ?_, l3, fun j hj hjm => by rw [g3 j hj hjm, g j hj hjm]⟩, by simp only [Int.toNat_natCast]; omega⟩
        rw [take_snoc hx, grp_snoc]
      · right
        have : i = r.length := by omega
        subst this
        refine ⟨(.ex0 (), hL sl2), ?_, sl2, E, rfl, by rw [List.take_length] at F; exact F, hl2, g⟩
        unfold arrival_read.loop1
        try simp -implicitDefEqProofs only []
        rw [decide_eq_false (by omega), cond_false]) FUEL (0, hL sl) ⟨0, sl, [], rfl, Nat.zero_le _, Fam.nil hs, hlo, fun _ _ _ => rfl⟩ (fuel_gt (by simp only [Int.toNat_zero]; omega))
  obtain ⟨sl2, E, rfl, h⟩ := hp
  exact ⟨sl2, E, hq, h⟩
abbrev cRd (c1 c2 : Nat) (s3 s4 : SV) : Slot := .own [.map (some c1), .map (some c2), .slice s3.a s3.len s3.cap s3.tail, .slice s4.a s4.len s4.cap s4.tail] 4
theorem rd_cRd {sl : List Slot} {id c1 c2 : Nat} {s3 s4 : SV} (h : sl[id]? = some (cRd c1 c2 s3 s4)) :
    rdT (.leaf .map) (hL sl) (.hp id 4 0) = some (some c1) ∧ rdT (.leaf .map) (hL sl) (.hp id 4 1) = some (some c2) ∧ rdT (.leaf .slice) (hL sl) (.hp id 4 2) = some s3 ∧ rdT (.leaf .slice) (hL sl) (.hp id 4 3) = some s4 ∧ rdT (.agg [.map, .map, .slice, .slice]) (hL sl) (.hp id 4 0) = some (some c1, some c2, s3, s4) := by
  refine ⟨?_, ?_, ?_, ?_, ?_⟩
  · rw [rd_own (g := 4) h rfl]; rfl
  · rw [rd_own (g := 4) h rfl]; rfl
  · rw [rd_own (g := 4) h rfl]; rfl
  · rw [rd_own (g := 4) h rfl]; rfl
  · rw [rds_hp (by simp), hL_m, h]; rfl
theorem wr_cRd2 {sl : List Slot} {id c1 c2 : Nat} {s3 s4 : SV} (h : sl[id]? = some (cRd c1 c2 s3 s4)) (s : SV) : H.wrs (hL sl) (.hp id 4 2) [.slice s.a s.len s.cap s.tail] = some (hL (sl.set id (cRd c1 c2 s s4))) := by
  rw [wrs_own (g := 4) h rfl (by simp)]; rfl
theorem wr_cRd3 {sl : List Slot} {id c1 c2 : Nat} {s3 s4 : SV} (h : sl[id]? = some (cRd c1 c2 s3 s4)) (s : SV) : H.wrs (hL sl) (.hp id 4 3) [.slice s.a s.len s.cap s.tail] = some (hL (sl.set id (cRd c1 c2 s3 s))) := by
  rw [wrs_own (g := 4) h rfl (by simp)]; rfl
theorem own_fact {sl : List Slot} {id i : Nat} {xs : List Fct} {x : Fct} (h : sl[id]? = some (.own (cellsL FC xs) 6)) (hx : xs[i]? = some x) : rdT FactT (hL sl) (V.add (ownSV id FC xs.length).a (i * 6)) = some (low true x) := by
  have := rds_ownL (ls := FC) (ms := FS) (xs := xs) (sl := sl) (id := id) (e := 6) (n := xs.length * 6) (i := i) (w := 6) h rfl rfl rfl (by omega)
  rw [show V.add (ownSV id FC xs.length).a (i * 6) = .hp id (xs.length * 6) (i * 6) by simp [ownSV, V.add], this, hx]
  rfl
theorem acc_key {sl : List Slot} {ks : List Ky} {s : SV} {o : Option Nat} (h : Acc sl KC ks s o) {i : Nat} {k : Ky} (hk : ks[i]? = some k) : rdT KeyT (hL sl) (V.add s.a (i * 3)) = some k := by
  cases o with
  | none => rw [h.1] at hk; simp at hk
  | some id =>
    obtain ⟨h1, rfl, h3⟩ := h
    have := rds_ownL (ls := KC) (ms := KC) (xs := ks) (sl := sl) (id := id) (e := 3) (n := ks.length * 3) (i := i) (w := 3) h3 rfl rfl rfl (by omega)
    rw [show V.add (ownSV id KC ks.length).a (i * 3) = .hp id (ks.length * 3) (i * 3) by simp [ownSV, V.add], this, hk]
    rfl
def cntM (L : List Fct) : List (Ky × LowC) := L.map fun f => (keyF f, low true f)
theorem place_cnt (k : Ky) (L : List Fct) : placeG KeyT k (cntM L) = L.findIdx? fun f => decide (k = keyF f) := by
  rw [place_key]
  unfold cntM
  rw [List.findIdx?_map]
  rfl
theorem cnt_put {sl : List Slot} {m : Nat} {L : List Fct} {f : Fct} (h : sl[m]? = some (.gmap (upG KeyT FactT (cntM L)))) (hno : ∀ g ∈ L, keyF g ≠ keyF f) : setG (hL sl) m KeyT FactT (keyF f) (low true f) = some (hL (sl.set m (.gmap (upG KeyT FactT (cntM (L ++ [f])))))) := by
  have hp : placeG KeyT (keyF f) (cntM L) = none := by
    rw [place_cnt, List.findIdx?_eq_none_iff]
    intro g hg
    simpa using fun e => hno g hg e.symm
  simp only [setG, gmap_facts h, Option.map_some, putG, hp]
  rw [hL_put (List.getElem?_eq_some_iff.1 h).1]
  simp [cntM]
theorem cnt_look {sl : List Slot} {m : Nat} {L : List Fct} (h : sl[m]? = some (.gmap (upG KeyT FactT (cntM L)))) (z : LowC) (k : Ky) : lookG (hL sl) m KeyT FactT z k = some (match L.find? fun f => decide (keyF f = k) with | some f => (low true f, true) | none => (z, false)) := by
  have hp : placeG KeyT k (cntM L) = L.findIdx? fun f => decide (k = keyF f) := place_cnt k L
  cases hf : L.findIdx? fun f => decide (k = keyF f) with
  | none =>
    rw [List.findIdx?_eq_none_iff] at hf
    have : L.find? (fun f => decide (keyF f = k)) = none := List.find?_eq_none.2 fun g hg => by
      have := hf g hg
      simpa using fun e : keyF g = k => by simp [e] at this
    rw [this]
    rw [List.findIdx?_eq_none_iff.2 hf] at hp
    simp only [lookG, gmap_facts h, Option.map_some, valG, hp]
  | some i =>
    rw [hf] at hp
    rw [List.findIdx?_eq_some_iff_getElem] at hf
    obtain ⟨hi, hq, hlt⟩ := hf
    have hk : k = keyF L[i] := by simpa using hq
    have : L.find? (fun f => decide (keyF f = k)) = some L[i] := by
      rw [List.find?_eq_some_iff_getElem]
      refine ⟨by simp [hk], i, hi, rfl, fun j hj => ?_⟩
      have := hlt j hj
      simp only [decide_eq_true_eq] at this
      simpa using fun e : keyF L[j] = k => this e.symm
    rw [this]
    simp only [lookG, gmap_facts h, Option.map_some, valG, hp]
    simp [cntM, hi]
def cntK (r : List Fct) (ks : List Ky) : List Fct := ks.filterMap fun k => if 1 < (grp r k).length then none else (grp r k).head?
def conK (r : List Fct) (ks : List Ky) : List Ky := ks.filter fun k => decide (1 < (grp r k).length)
theorem cntK_snoc (r : List Fct) (ks : List Ky) (k : Ky) : cntK r (ks ++ [k]) = cntK r ks ++ (if 1 < (grp r k).length then none else (grp r k).head?).toList := by
  unfold cntK
  rw [List.filterMap_append]
  cases h : (if 1 < (grp r k).length then none else (grp r k).head?) <;> simp [h]
theorem conK_snoc (r : List Fct) (ks : List Ky) (k : Ky) : conK r (ks ++ [k]) = conK r ks ++ if 1 < (grp r k).length then [k] else [] := by
  unfold conK
  rw [List.filter_append]
  by_cases h : 1 < (grp r k).length <;> simp [h]
theorem cntK_key {r : List Fct} {ks : List Ky} {f : Fct} (h : f ∈ cntK r ks) : keyF f ∈ ks ∧ f ∈ r ∧ grp r (keyF f) = [f] := by
  unfold cntK at h
  obtain ⟨k, hk, h⟩ := List.mem_filterMap.1 h
  split at h
  · cases h
  · rename_i hl
    have hm := List.mem_of_mem_head? h
    have h1 := (List.mem_filter.1 hm)
    have hkf : keyF f = k := by simpa using h1.2
    subst hkf
    refine ⟨hk, h1.1, ?_⟩
    cases hg : grp r (keyF f) with
    | nil => rw [hg] at hm; simp at hm
    | cons a l =>
      rw [hg] at h hl
      simp only [List.head?_cons, Option.mem_def, Option.some.injEq] at h
      simp only [List.length_cons] at hl
      have : l = [] := List.eq_nil_of_length_eq_zero (by omega)
      rw [this, h]
structure C2 (slB sl : List Slot) (rb cm c2 : Nat) (r : List Fct) (ks : List Ky) : Prop where
  old : ∀ j, j < slB.length → j ≠ cm → j ≠ rb → sl[j]? = slB[j]?
  cnt : sl[cm]? = some (.gmap (upG KeyT FactT (cntM (cntK r ks))))
  rd : ∃ s3 o3, sl[rb]? = some (cRd cm c2 s3 nilSV) ∧ Acc sl KC (conK r ks) s3 o3 ∧ ∀ j, o3 = some j → slB.length ≤ j
  len : slB.length ≤ sl.length
theorem read2_round {h3 h5 : H} {slB sl : List Slot} {rb cm c2 m lo i : Nat} {r : List Fct} {E : FamE} {ks : List Ky} {k : Ky} {s29 : SV} {o29 : Option Nat} (hrb : h3.next = rb) (hm : h5.next = m) (hne : m ≠ cm ∧ m ≠ rb ∧ cm ≠ rb) (hlo : cm < lo ∧ rb < lo)
    (F : Fam slB m lo (grp r) E) (A : Acc slB KC ks s29 o29) (ho : ∀ j, o29 = some j → lo ≤ j) (hk : ks[i]? = some k) (hsub : grp r k ≠ []) (hnew : k ∉ ks.take i) (hlen : ks.length ≤ 2 ^ 20) (c : C2 slB sl rb cm c2 r (ks.take i)) (hcm : cm < slB.length ∧ rb < slB.length) :
    ∃ sl2, arrival_read.loop2 h3 h5 s29 ((i : Int), hL sl) = some (.more (((i + 1 : Nat) : Int), hL sl2)) ∧ C2 slB sl2 rb cm c2 r (ks.take (i + 1)) := by
  have hi := (List.getElem?_eq_some_iff.1 hk).1
  obtain ⟨old, cnt, ⟨s3, o3, rd, acc, ho3⟩, len⟩ := c
  have keep : ∀ t : List Slot, ∀ j, j < slB.length → j ≠ cm → j ≠ rb → (sl ++ t)[j]? = slB[j]? := fun t j hj h1 h2 => by rw [get_app (by omega)]; exact old j hj h1 h2
  have F1 : Fam (sl ++ [cKy k]) m lo (grp r) E := F.frame fun j hj => by
    rcases hj with rfl | ⟨a, e, ha, rfl⟩
    · exact keep _ _ (List.getElem?_eq_some_iff.1 F.map).1 hne.1 hne.2.1
    · have := (F.cells a e ha).2.1
      exact keep _ _ (F.lt ha) (by omega) (by omega)
  have A0 : Acc sl KC ks s29 o29 := A.frame fun j hj => by
    have := ho j hj
    subst hj
    exact old j A.lt (by omega) (by omega)
  have acc1 : Acc (sl ++ [cKy k]) KC (conK r (ks.take i)) s3 o3 := acc.more
  have rd1 : (sl ++ [cKy k])[rb]? = some (cRd cm c2 s3 nilSV) := by rw [get_app (by omega)]; exact rd
  have cnt1 : (sl ++ [cKy k])[cm]? = some (.gmap (upG KeyT FactT (cntM (cntK r (ks.take i))))) := by rw [get_app (by omega)]; exact cnt
  obtain ⟨q1, q2, q3, q4, _⟩ := rd_cRd rd1
  obtain ⟨hE0, _⟩ | ⟨id, hg, hlook, hcell, hid⟩ := F1.look k ⟨.nil, 0, 0, false⟩
  · exact absurd hE0 hsub
  have hcl : (conK r (ks.take i)).length ≤ 2 ^ 20 := by
    have := List.length_filter_le (fun k => decide (1 < (grp r k).length)) (ks.take i)
    rw [List.length_take] at this
    unfold conK
    omega
  have start : ∀ {Q : Option (Stp (Int × H) (Flow Unit (Option Nat × Option Nat × SV × SV) × H))}, arrival_read.loop2 h3 h5 s29 ((i : Int), hL sl) = Q → arrival_read.loop2 h3 h5 s29 ((i : Int), hL sl) = Q := fun h => h
  by_cases h1 : 1 < (grp r k).length
  · obtain ⟨s', sl3, id', k1, k2, k3, k4, k5⟩ := acc1.append (w := 3) (b := 24) (x := k) (vs := LT.lo true KC k) rfl (by decide) (by omega) (by decide) rfl
    have k1' : appendS (hL (sl ++ [cKy k])) none 3 24 s3 [.int .i64 k.1, .int .i64 k.2.1, .int .i64 k.2.2] 1 = some (s', hL sl3) := k1
    rw [len_app1] at k3 k4 k5
    have rd3 : sl3[rb]? = some (cRd cm c2 s3 nilSV) := by rw [k5 rb (fun e => by have := ho3 rb e; omega) (by omega)]; exact rd1
    have hnr : rb ≠ id' := by
      rcases k3 with k3 | ⟨_, k3⟩
      · have := ho3 _ k3; omega
      · omega
    refine ⟨sl3.set rb (cRd cm c2 s' nilSV), ?_, ⟨fun j hj h2 h3 => ?_, ?_, ⟨s', some id', ?_, ?_, fun j e => ?_⟩, by rw [List.length_set]; omega⟩⟩
    · unfold arrival_read.loop2
      try simp -implicitDefEqProofs only [A0.len, Int.toNat_natCast, hm, hrb]
      rw [decide_eq_true (by omega), cond_true, guardO_pos (by omega), acc_key A0 hk]
      try simp -implicitDefEqProofs only [Option.bind_some, hL_new, hL_next, wr_key, rd_key_all new_at, hlook, ownSV]
      rw [decide_eq_true (by omega), cond_true, q3]
      try simp -implicitDefEqProofs only [Option.bind_some, k1']
      rw [wr_cRd2 rd3]
      try simp -implicitDefEqProofs only [Option.bind_some]
      rw [i64_suc (by omega)]
    · rw [List.getElem?_set_ne (by omega), k5 j (fun e => by have := ho3 j e; omega) (by omega)]
      exact keep _ j hj h2 h3
    · rw [List.getElem?_set_ne (by omega), k5 cm (fun e => by have := ho3 cm e; omega) (by omega), cnt1, take_snoc hk, cntK_snoc, if_pos h1]
      simp
    · rw [List.getElem?_set_self (by omega)]
    · rw [take_snoc hk, conK_snoc, if_pos h1]
      exact k2.frame fun j e => by
        cases e
        rw [List.getElem?_set_ne hnr]
    · cases e
      rcases k3 with k3 | ⟨_, k3⟩
      · exact ho3 _ k3
      · omega
  · obtain ⟨x, hx⟩ : ∃ x, grp r k = [x] := by
      cases hg' : grp r k with
      | nil => exact absurd hg' hsub
      | cons x l =>
        rw [hg'] at h1
        simp only [List.length_cons] at h1
        have : l = [] := List.eq_nil_of_length_eq_zero (by omega)
        exact ⟨x, by rw [this]⟩
    have hkx : keyF x = k := by
      have : x ∈ grp r k := by rw [hx]; simp
      simpa using (List.mem_filter.1 this).2
    have hput := cnt_put (f := x) cnt1 (fun g hg e => hnew (by rw [← hkx, ← e]; exact (cntK_key hg).1))
    have hof := own_fact (i := 0) (x := x) hcell (by rw [hx]; rfl)
    rw [Nat.zero_mul] at hof
    refine ⟨(sl ++ [cKy k]).set cm (.gmap (upG KeyT FactT (cntM (cntK r (ks.take i) ++ [x])))), ?_, ⟨fun j hj h2 h3 => ?_, ?_, ⟨s3, o3, ?_, ?_, ho3⟩, by rw [List.length_set, len_app1]; omega⟩⟩
    · unfold arrival_read.loop2
      try simp -implicitDefEqProofs only [A0.len, Int.toNat_natCast, hm, hrb]
      rw [decide_eq_true (by omega), cond_true, guardO_pos (by omega), acc_key A0 hk]
      try simp -implicitDefEqProofs only [Option.bind_some, hL_new, hL_next, wr_key, rd_key_all new_at, hlook]
      rw [decide_eq_false (by show ¬ (1 : Int) < ((ownSV id FC (grp r k).length).len : Nat); simp only [ownSV]; omega), cond_false]
      try simp -implicitDefEqProofs only [reserve0, Option.bind_some, rd_key_all new_at, hlook, q1]
      rw [guardO_pos (by show (0 : Int) ≤ 0 ∧ (0 : Int) < ((ownSV id FC (grp r k).length).len : Nat); simp only [ownSV, hx, List.length_singleton]; omega), hof]
      try simp -implicitDefEqProofs only [Option.bind_some, low, ← hkx]
      have hput' : setG (hL (sl ++ [cKy k])) cm KeyT FactT (keyF x) (x.1, x.2.1, x.2.2.1, x.2.2.2.1, rowSV true j1 x.2.2.2.2.1, rowSV true t1 x.2.2.2.2.2) = _ := hput
      rw [← hkx] at hput'
      rw [hput']
      try simp -implicitDefEqProofs only [Option.bind_some]
      rw [i64_suc (by omega)]
    · rw [List.getElem?_set_ne (by omega)]
      exact keep _ j hj h2 h3
    · rw [List.getElem?_set_self (by rw [len_app1]; omega), take_snoc hk, cntK_snoc, if_neg h1, hx]
      rfl
    · rw [List.getElem?_set_ne (by omega)]; exact rd1
    · rw [take_snoc hk, conK_snoc, if_neg h1, List.append_nil]
      exact acc1.frame fun j e => by rw [List.getElem?_set_ne (by have := ho3 j e; omega)]
theorem read2_ok {h3 h5 : H} {slB : List Slot} {rb cm c2 m lo : Nat} {r : List Fct} {E : FamE} {ks : List Ky} {s29 : SV} {o29 : Option Nat} (hrb : h3.next = rb) (hm : h5.next = m) (hne : m ≠ cm ∧ m ≠ rb ∧ cm ≠ rb) (hlo : cm < lo ∧ rb < lo)
    (F : Fam slB m lo (grp r) E) (A : Acc slB KC ks s29 o29) (ho : ∀ j, o29 = some j → lo ≤ j) (hsub : ∀ k ∈ ks, grp r k ≠ []) (hnd : ks.Nodup) (hlen : ks.length ≤ 2 ^ 20) (hcm : slB[cm]? = some (.gmap [])) (hr : slB[rb]? = some (cRd cm c2 nilSV nilSV)) :
    ∃ sl2, iter FUEL (arrival_read.loop2 h3 h5 s29) (0, hL slB) = some (.ex0 (), hL sl2) ∧ C2 slB sl2 rb cm c2 r ks := by
  have hlc := (List.getElem?_eq_some_iff.1 hcm).1
  have hlr := (List.getElem?_eq_some_iff.1 hr).1
  obtain ⟨q, hq, hp⟩ := iter_inv (f := arrival_read.loop2 h3 h5 s29) (Inv := fun st => ∃ (i : Nat) (sl2 : List Slot), st = ((i : Int), hL sl2) ∧ i ≤ ks.length ∧ C2 slB sl2 rb cm c2 r (ks.take i))
    (Post := fun q => ∃ sl2, q = (.ex0 (), hL sl2) ∧ C2 slB sl2 rb cm c2 r ks) (fun st => ks.length - st.1.toNat) (fun st hi => by
      obtain ⟨i, sl2, rfl, hil, c⟩ := hi
      by_cases hlt : i < ks.length
      · left
        have hx : ks[i]? = some ks[i] := List.getElem?_eq_getElem hlt
        obtain ⟨sl3, h1, c3⟩ := read2_round hrb hm hne hlo F A ho hx (hsub _ (List.getElem_mem hlt)) (fun hmem => by
          obtain ⟨j, hj, he⟩ := List.mem_iff_getElem.1 hmem
          rw [List.length_take] at hj
          rw [List.getElem_take] at he
          have := (List.getElem_inj hnd).1 he
          omega) hlen c ⟨hlc, hlr⟩
        exact ⟨_, h1, ⟨i + 1, sl3, rfl, by omega, c3⟩, by simp only [Int.toNat_natCast]; omega⟩
      · right
        have : i = ks.length := by omega
        subst this
        refine ⟨(.ex0 (), hL sl2), ?_, sl2, rfl, by rw [List.take_length] at c; exact c⟩
        unfold arrival_read.loop2
        try simp -implicitDefEqProofs only [A.len]
        rw [decide_eq_false (by omega), cond_false]) FUEL (0, hL slB) ⟨0, slB, rfl, Nat.zero_le _, ⟨fun _ _ _ _ => rfl, hcm, ⟨nilSV, none, hr, Acc.nil, fun j e => by cases e⟩, Nat.le_refl _⟩⟩ (fuel_gt (by simp only [Int.toNat_zero]; omega))
  obtain ⟨sl2, rfl, h⟩ := hp
  exact ⟨sl2, hq, h⟩
def corrO : Option Fct → Bool
  | some g => corrects g
  | none => false
def lastS : Option Fct → Slot
  | some g => cFt true g
  | none => .own zF 6
def refF (C : List Fct) (f : Fct) : Bool := !(targetF f).2 || corrO (C.find? fun g => decide (keyF g = keyF (targetF f).1))
def corF (C D : List Fct) (k : Ky) : List Fct := D.filter fun f => corrects f && !refF C f && decide (keyF (targetF f).1 = k)
def rfsF (C D : List Fct) : List Ky := (D.filter fun f => corrects f && refF C f).map keyF
theorem corF_snoc (C D : List Fct) (f : Fct) (k : Ky) : corF C (D ++ [f]) k = if corrects f && !refF C f && decide (keyF (targetF f).1 = k) then corF C D k ++ [f] else corF C D k := by
  unfold corF
  rw [List.filter_append]
  cases h : corrects f && !refF C f && decide (keyF (targetF f).1 = k) <;> simp [h]
theorem rfsF_snoc (C D : List Fct) (f : Fct) : rfsF C (D ++ [f]) = if corrects f && refF C f then rfsF C D ++ [keyF f] else rfsF C D := by
  unfold rfsF
  rw [List.filter_append]
  cases h : corrects f && refF C f <;> simp [h]
theorem new_at1 {sl : List Slot} {s t : Slot} : (sl ++ [s] ++ [t])[sl.length]? = some s := by simp
theorem new_at2 {sl : List Slot} {s t u : Slot} : (sl ++ [s] ++ [t] ++ [u])[sl.length]? = some s := by simp
theorem new_at3 {sl : List Slot} {s t u v : Slot} : (sl ++ [s] ++ [t] ++ [u] ++ [v])[sl.length]? = some s := by simp
structure C3 (slC sl : List Slot) (rb cm c2 : Nat) (C D : List Fct) (s3 : SV) (E : FamE) : Prop where
  old : ∀ j, j < slC.length → j ≠ c2 → j ≠ rb → sl[j]? = slC[j]?
  fam : Fam sl c2 slC.length (corF C D) E
  rd : ∃ s4 o4, sl[rb]? = some (cRd cm c2 s3 s4) ∧ Acc sl KC (rfsF C D) s4 o4 ∧ ∀ j, o4 = some j → slC.length ≤ j ∧ ∀ (i : Nat) (e : FamR), E[i]? = some e → e.2.1 ≠ j
  len : slC.length ≤ sl.length
theorem C3.more {slC sl : List Slot} {rb cm c2 : Nat} {C D : List Fct} {s3 : SV} {E : FamE} (c : C3 slC sl rb cm c2 C D s3 E) (hr : rb < slC.length) (t : List Slot) : C3 slC (sl ++ t) rb cm c2 C D s3 E := by
  obtain ⟨old, fam, ⟨s4, o4, rd, acc, ho⟩, len⟩ := c
  exact ⟨fun j hj h1 h2 => by rw [get_app (by omega)]; exact old j hj h1 h2, fam.more, ⟨s4, o4, by rw [get_app (by omega)]; exact rd, acc.more, ho⟩, by rw [List.length_append]; omega⟩
theorem zero_fact {sl : List Slot} : H.wrs (hL (sl ++ [.own zF 6])) (.hp sl.length 6 0) zF = some (hL (sl ++ [.own zF 6])) := wr_new rfl rfl rfl
theorem len_filter {α : Type} (p : α → Bool) (l : List α) (n : Nat) (h : l.length ≤ n) : (l.filter p).length ≤ n := Nat.le_trans (List.length_filter_le _ _) h
theorem ref_step {slC sl : List Slot} {rb cm c2 : Nat} {C D : List Fct} {s3 : SV} {E : FamE} {f : Fct} (c : C3 slC sl rb cm c2 C D s3 E) (hlt : c2 < slC.length ∧ rb < slC.length) (hne : c2 ≠ rb) (hD : D.length ≤ 2 ^ 20) (hc : corrects f = true) (hr : refF C f = true) :
    ∃ s4 sA s' sl5, rdT (.leaf .slice) (hL sl) (.hp rb 4 3) = some s4 ∧ appendS (hL sl) none 3 24 s4 [.int .i64 (keyF f).1, .int .i64 (keyF f).2.1, .int .i64 (keyF f).2.2] 1 = some (s', hL sA) ∧ H.wrs (hL sA) (.hp rb 4 3) [.slice s'.a s'.len s'.cap s'.tail] = some (hL sl5) ∧ C3 slC sl5 rb cm c2 C (D ++ [f]) s3 E := by
  obtain ⟨old, fam, ⟨s4, o4, rd, acc, ho⟩, len⟩ := c
  have hl : (rfsF C D).length ≤ 2 ^ 20 := by unfold rfsF; rw [List.length_map]; exact len_filter _ _ _ hD
  obtain ⟨s', sA, id', k1, k2, k3, k4, k5⟩ := acc.append (w := 3) (b := 24) (x := keyF f) (vs := LT.lo true KC (keyF f)) rfl (by decide) (by omega) (by decide) rfl
  have rdA : sA[rb]? = some (cRd cm c2 s3 s4) := by rw [k5 rb (fun e => by have := (ho rb e).1; omega) (by omega)]; exact rd
  have hid : slC.length ≤ id' ∧ (∀ (i : Nat) (e : FamR), E[i]? = some e → e.2.1 ≠ id') := by
    rcases k3 with k3 | ⟨_, k3⟩
    · exact ho _ k3
    · exact ⟨by omega, fun i e he => by have := fam.lt he; omega⟩
  refine ⟨s4, sA, s', sA.set rb (cRd cm c2 s3 s'), (rd_cRd rd).2.2.2.1, k1, wr_cRd3 rdA s', ⟨fun j hj h1 h2 => ?_, ?_, ⟨s', some id', ?_, ?_, fun j e => ?_⟩, by rw [List.length_set]; omega⟩⟩
  · rw [List.getElem?_set_ne (by omega), k5 j (fun e => by have := (ho j e).1; omega) (by omega)]
    exact old j hj h1 h2
  · refine (fam.frame fun j hj => ?_).congr fun k' => by simp [corF_snoc, hr]
    rcases hj with rfl | ⟨i, e, he, rfl⟩
    · rw [List.getElem?_set_ne (by omega), k5 _ (fun e => by have := (ho _ e).1; omega) (by omega)]
    · have := (fam.cells i e he).2.1
      rw [List.getElem?_set_ne (by omega), k5 _ (fun e' => (ho _ e').2 i e he rfl) (fam.lt he)]
  · rw [List.getElem?_set_self (by omega)]
  · rw [rfsF_snoc, hc, hr]
    exact k2.frame fun j e => by
      cases e
      rw [List.getElem?_set_ne (by omega)]
  · cases e; exact hid
theorem cor_step {slC sl : List Slot} {rb cm c2 : Nat} {C D : List Fct} {s3 : SV} {E : FamE} {f : Fct} (c : C3 slC sl rb cm c2 C D s3 E) (hlt : c2 < slC.length ∧ rb < slC.length) (hne : c2 ≠ rb) (hD : D.length ≤ 2 ^ 20) (hc : corrects f = true) (hr : refF C f = false) :
    ∃ s i sl1 s' sl2 sl3 E2, entG (hL sl) c2 KeyT SlT ⟨.nil, 0, 0, false⟩ (keyF (targetF f).1) = some ((s, i), hL sl1) ∧ appendS (hL sl1) none 6 80 s (cellsF true f) 1 = some (s', hL sl2) ∧ atG (hL sl2) c2 KeyT SlT i s' = some (hL sl3) ∧ C3 slC sl3 rb cm c2 C (D ++ [f]) s3 E2 := by
  obtain ⟨old, fam, ⟨s4, o4, rd, acc, ho⟩, len⟩ := c
  obtain ⟨s, i, sl1, s', sl2, sl3, e1, e2, e3, F3, l3, g3⟩ := fam.step hlt.1 len (keyF (targetF f).1) f (vs := cellsF true f) rfl (by have := len_filter (fun f' => corrects f' && !refF C f' && decide (keyF (targetF f').1 = keyF (targetF f).1)) D _ hD; unfold corF; omega)
  refine ⟨s, i, sl1, s', sl2, sl3, _, e1, e2, e3, ⟨fun j hj h1 h2 => ?_, F3.congr fun k' => ?_, ⟨s4, o4, ?_, ?_, fun j e => ⟨(ho j e).1, fun a b hb => ?_⟩⟩, by omega⟩⟩
  · rw [g3 j (by omega) h1 (fun a b hb => by have := (fam.cells a b hb).2.1; omega)]
    exact old j hj h1 h2
  · simp only [corF_snoc, hc, hr, Bool.not_false, Bool.and_self, Bool.true_and, decide_eq_true_eq]
    by_cases h : k' = keyF (targetF f).1
    · rw [if_pos h, if_pos h.symm]
    · rw [if_neg h, if_neg (fun e => h e.symm)]
  · rw [g3 rb (by omega) (by omega) (fun a b hb => by have := (fam.cells a b hb).2.1; omega)]; exact rd
  · rw [rfsF_snoc, hc, hr]
    refine acc.frame fun j e => ?_
    have h1 := (ho j e).1
    subst e
    exact g3 j acc.lt (by omega) (fun a b hb e => (ho j rfl).2 a b hb e.symm)
  · have hjl : j < sl.length := by subst e; exact acc.lt
    unfold addE at hb
    split at hb
    · rename_i i0 hi0
      rw [List.getElem?_modify] at hb
      cases hE : E[a]? with
      | none => rw [hE] at hb; cases hb
      | some e0 =>
        rw [hE] at hb
        have h2 : b.2.1 = e0.2.1 := by
          simp only [Option.map_eq_map, Option.map_some, Option.some.injEq] at hb
          rw [← hb]
          split <;> rfl
        rw [h2]
        exact (ho j e).2 a e0 hE
    · rcases Nat.lt_or_ge a E.length with h | h
      · rw [List.getElem?_append_left h] at hb
        exact (ho j e).2 a b hb
      · rw [List.getElem?_append_right h] at hb
        have h0 : a - E.length = 0 := by
          cases hq : a - E.length with
          | zero => rfl
          | succ m => rw [hq] at hb; simp at hb
        rw [h0] at hb
        simp at hb
        rw [← hb]
        simp only
        omega
theorem read3_round {h3 : H} {slC sl : List Slot} {rb cm c2 i : Nat} {C D : List Fct} {E : FamE} {ks : List Ky} {k : Ky} {s29 s3 : SV} {o29 : Option Nat} (hrb : h3.next = rb) (hne : cm ≠ c2 ∧ cm ≠ rb ∧ c2 ≠ rb) (hlt : cm < slC.length ∧ c2 < slC.length ∧ rb < slC.length)
    (A : Acc slC KC ks s29 o29) (ho : ∀ j, o29 = some j → j ≠ c2 ∧ j ≠ rb) (hk : ks[i]? = some k) (hlen : ks.length ≤ 2 ^ 20) (hD : D.length ≤ 2 ^ 20) (cnt : slC[cm]? = some (.gmap (upG KeyT FactT (cntM C)))) (hsm : ∀ f ∈ C, smallF f)
    (c : C3 slC sl rb cm c2 C D s3 E) :
    ∃ sl2 E2, arrival_read.loop3 h3 s29 ((i : Int), hL sl) = some (.more (((i + 1 : Nat) : Int), hL sl2)) ∧ C3 slC sl2 rb cm c2 C (D ++ (C.find? fun g => decide (keyF g = k)).toList) s3 E2 := by
  have hi := (List.getElem?_eq_some_iff.1 hk).1
  have hlen' := c.len
  have A0 : Acc sl KC ks s29 o29 := A.frame fun j hj => by
    have := ho j hj
    subst hj
    exact c.old j A.lt this.1 this.2
  have mapAt : ∀ t, (sl ++ t)[cm]? = some (.gmap (upG KeyT FactT (cntM C))) := fun t => by rw [get_app (by omega), c.old cm hlt.1 hne.1 hne.2.1]; exact cnt
  obtain ⟨q1, _⟩ := rd_cRd (sl := sl ++ [cKy k]) (id := rb) (c1 := cm) (c2 := c2) (s3 := s3) (s4 := (c.rd).choose) (by rw [get_app (by omega)]; exact (c.rd).choose_spec.choose_spec.1)
  have L1 := cnt_look (mapAt [cKy k]) (0, 0, 0, 0, ⟨.nil, 0, 0, false⟩, ⟨.nil, 0, 0, false⟩) k
  cases hf : C.find? fun g => decide (keyF g = k) with
  | none =>
    rw [hf] at L1
    refine ⟨sl ++ [cKy k] ++ [.own zF 6], E, ?_, ?_⟩
    · unfold arrival_read.loop3
      try simp -implicitDefEqProofs only [A0.len, Int.toNat_natCast, hrb]
      rw [decide_eq_true (by omega), cond_true, guardO_pos (by omega), acc_key A0 hk]
      try simp -implicitDefEqProofs only [Option.bind_some, hL_new, hL_next, wr_key, rd_key_all new_at, q1, L1, zero_fact, Bool.not_false, Bool.not_true, cond_true, cond_false]
      rw [i64_suc (by omega)]
    · rw [Option.toList_none, List.append_nil, List.append_assoc]
      exact c.more hlt.2.2 _
  | some f =>
    rw [hf] at L1
    have hfC := List.mem_of_find?_eq_some hf
    have hkf : keyF f = k := by have := List.find?_some hf; simpa using this
    obtain ⟨hs1, hs2⟩ := hsm f hfC
    have T := Target_ok f hs1 hs2
    have K := Corrects_ok f
    by_cases hcor : corrects f = true
    · obtain ⟨gg, hgg⟩ : ∃ gg, gg = C.find? fun g => decide (keyF g = keyF (targetF f).1) := ⟨_, rfl⟩
      have L3 := cnt_look (mapAt ([cKy k] ++ [cFt true f] ++ [cFt true (targetF f).1])) (0, 0, 0, 0, ⟨.nil, 0, 0, false⟩, ⟨.nil, 0, 0, false⟩) (keyF (targetF f).1)
      rw [← hgg, ← List.append_assoc, ← List.append_assoc] at L3
      have q3 : rdT (.leaf .map) (hL (sl ++ [cKy k] ++ [cFt true f] ++ [cFt true (targetF f).1])) (.hp rb 4 0) = some (some cm) := by
        obtain ⟨s4, o4, rd, _⟩ := c.rd
        exact (rd_cRd (by rw [get_app (by rw [len_app1, len_app1]; omega), get_app (by rw [len_app1]; omega), get_app (by omega)]; exact rd)).1
      obtain ⟨A4, hA4⟩ : ∃ A4, A4 = sl ++ [cKy k] ++ [cFt true f] ++ [cFt true (targetF f).1] ++ [lastS gg] := ⟨_, rfl⟩
      have c4 : C3 slC A4 rb cm c2 C D s3 E := by
        have := c.more hlt.2.2 ([cKy k] ++ [cFt true f] ++ [cFt true (targetF f).1] ++ [lastS gg])
        rw [← List.append_assoc, ← List.append_assoc, ← List.append_assoc] at this
        rw [hA4]; exact this
      have r1 : rdT KeyT (hL A4) (.hp sl.length 3 0) = some k := by rw [hA4]; exact rd_key_all new_at3
      have r2 : rdT FactT (hL A4) (.hp (sl ++ [cKy k]).length 6 0) = some (low true f) := by rw [hA4]; exact rd_fact_all new_at2
      have r3 : rdT KeyT (hL A4) (.hp (sl ++ [cKy k] ++ [cFt true f]).length 6 0) = some (keyF (targetF f).1) := by rw [hA4]; exact rd_fact_key new_at1
      have hry : refF C f = (!(targetF f).2 || corrO gg) := by rw [hgg]; rfl
      have hQ : (targetF f).1 = ((targetF f).1.1, (targetF f).1.2.1, (targetF f).1.2.2.1, (targetF f).1.2.2.2.1, (targetF f).1.2.2.2.2.1, (targetF f).1.2.2.2.2.2) := rfl
      have hkk : k = keyF f := hkf.symm
      have open1 : ∀ {R : Option (Stp (Int × H) (Flow Unit (Option Nat × Option Nat × SV × SV) × H))},
          ((some (refF C f, hL A4)).bind fun (y94, h95) => (bif y94 then ((rdT (.leaf .slice) h95 (.hp rb 4 3)).bind fun x96 => ((rdT KeyT h95 (.hp sl.length 3 0)).bind fun (x97_0, x97_1, x97_2) => ((appendS h95 none 3 24 x96 [.int .i64 x97_0, .int .i64 x97_1, .int .i64 x97_2] 1).bind fun (s100, h99) =>
            ((H.wrs h99 (.hp rb 4 3) [.slice s100.a s100.len s100.cap s100.tail]).bind fun h102 => (some (.more ((IntKind.wrap .i64 ((i : Int) + 1)), h102))))))) else ((rdT (.leaf .map) h95 (.hp rb 4 1)).bind fun x103 => ((rdT KeyT h95 (.hp (sl ++ [cKy k] ++ [cFt true f]).length 6 0)).bind fun (x104_0, x104_1, x104_2) =>
            ((rdT FactT h95 (.hp (sl ++ [cKy k]).length 6 0)).bind fun (x105_0, x105_1, x105_2, x105_3, x105_4, x105_5) => ((x103 : Option Nat).bind fun r106 => ((entG h95 r106 KeyT SlT ⟨.nil, 0, 0, false⟩ (x104_0, x104_1, x104_2)).bind fun ((x107, i108), h109) =>
            ((appendS h109 none 6 80 x107 [.int .i64 x105_0, .int .i64 x105_1, .int .i64 x105_2, .int .i64 x105_3, .slice x105_4.a x105_4.len x105_4.cap x105_4.tail, .slice x105_5.a x105_5.len x105_5.cap x105_5.tail] 1).bind fun (s112, h111) =>
            ((x103 : Option Nat).bind fun r114 => ((atG h111 r114 KeyT SlT i108 s112).bind fun h115 => (some (.more ((IntKind.wrap .i64 ((i : Int) + 1)), h115))))))))))))) = R →
          arrival_read.loop3 h3 s29 ((i : Int), hL sl) = R := fun hR => by
        rw [← hR]
        unfold arrival_read.loop3
        try simp -implicitDefEqProofs only [A0.len, Int.toNat_natCast, hrb]
        rw [decide_eq_true (by omega), cond_true, guardO_pos (by omega), acc_key A0 hk]
        try simp -implicitDefEqProofs only [Option.bind_some, hL_new, hL_next, wr_key, rd_key_all new_at, q1, L1, low, rowSV_len, rowSV_cap, rowSV_tail, wr_fact, rd_fact_all new_at, row_ints', row_texts', K, hcor, Bool.not_false, Bool.not_true, cond_true, cond_false, T, rd_fact_key new_at, q3, L3]
        rw [hry, hA4]
        cases gg with
        | none =>
          try simp -implicitDefEqProofs only [lastS, corrO, zero_fact, Option.bind_some, Bool.not_not, cond_false, Bool.or_false]
          cases (targetF f).2 <;> rfl
        | some g =>
          try simp -implicitDefEqProofs only [lastS, corrO, wr_fact, Option.bind_some, Bool.not_not, rd_fact_all new_at, low, rowSV_len, rowSV_cap, rowSV_tail, row_ints', row_texts', Corrects_ok, cond_true]
          cases (targetF f).2 <;> rfl
      cases hr : refF C f with
      | true =>
        obtain ⟨s4, sA, s', sl5, e1, e2, e3, c5⟩ := ref_step c4 ⟨hlt.2.1, hlt.2.2⟩ hne.2.2 hD hcor hr
        refine ⟨sl5, E, open1 ?_, c5⟩
        rw [hr]
        try simp -implicitDefEqProofs only [Option.bind_some, cond_true, e1, r1, hkk, e2, e3]
        rw [i64_suc (by omega)]
      | false =>
        obtain ⟨s, i', sl1, s', sl2, sl3, E2, e1, e2, e3, c5⟩ := cor_step c4 ⟨hlt.2.1, hlt.2.2⟩ hne.2.2 hD hcor hr
        refine ⟨sl3, E2, open1 ?_, c5⟩
        have qm : rdT (.leaf .map) (hL A4) (.hp rb 4 1) = some (some c2) := by
          obtain ⟨s4, o4, rd, _⟩ := c4.rd
          exact (rd_cRd rd).2.1
        rw [hr]
        try simp -implicitDefEqProofs only [Option.bind_some, cond_false, qm, r2, r3, low, rowSV_len, rowSV_cap, rowSV_tail, e1, e2, e3]
        rw [i64_suc (by omega)]
    · have hcor' : corrects f = false := by simpa using hcor
      refine ⟨sl ++ [cKy k] ++ [cFt true f], E, ?_, ?_⟩
      · unfold arrival_read.loop3
        try simp -implicitDefEqProofs only [A0.len, Int.toNat_natCast, hrb]
        rw [decide_eq_true (by omega), cond_true, guardO_pos (by omega), acc_key A0 hk]
        try simp -implicitDefEqProofs only [Option.bind_some, hL_new, hL_next, wr_key, rd_key_all new_at, q1, L1, low, rowSV_len, rowSV_cap, rowSV_tail, wr_fact, rd_fact_all new_at, row_ints', row_texts', K, hcor', Bool.not_false, Bool.not_true, cond_true, cond_false]
        rw [i64_suc (by omega)]
      · obtain ⟨old, fam, ⟨s4, o4, rd, acc, ho4⟩, len⟩ := c.more hlt.2.2 ([cKy k] ++ [cFt true f])
        rw [← List.append_assoc] at old fam rd acc len
        refine ⟨old, fam.congr fun k' => ?_, ⟨s4, o4, rd, ?_, ho4⟩, len⟩
        · simp [corF_snoc, hcor']
        · have e : rfsF C (D ++ (some f).toList) = rfsF C D := by simp [rfsF_snoc, hcor']
          rw [e]; exact acc
theorem find_cntK {r : List Fct} {ks : List Ky} {k : Ky} (hk : k ∈ ks) : (cntK r ks).find? (fun g => decide (keyF g = k)) = if 1 < (grp r k).length then none else (grp r k).head? := by
  cases h : (cntK r ks).find? fun g => decide (keyF g = k) with
  | some g =>
    have hm := List.mem_of_find?_eq_some h
    have hg : keyF g = k := by have := List.find?_some h; simpa using this
    obtain ⟨_, _, h3⟩ := cntK_key hm
    rw [hg] at h3
    rw [h3]
    rfl
  | none =>
    rw [List.find?_eq_none] at h
    split
    · rfl
    · rename_i hl
      cases hh : (grp r k).head? with
      | none => rfl
      | some x =>
        exfalso
        have hx : x ∈ cntK r ks := List.mem_filterMap.2 ⟨k, hk, by rw [if_neg hl, hh]⟩
        have hxk : keyF x = k := by simpa using (List.mem_filter.1 (List.mem_of_mem_head? hh)).2
        exact h x hx (by simp [hxk])
theorem read3_ok {h3 : H} {slC : List Slot} {rb cm c2 : Nat} {r : List Fct} {ks : List Ky} {s29 s3 : SV} {o29 : Option Nat} (hrb : h3.next = rb) (hne : cm ≠ c2 ∧ cm ≠ rb ∧ c2 ≠ rb) (A : Acc slC KC ks s29 o29) (ho : ∀ j, o29 = some j → j ≠ c2 ∧ j ≠ rb) (hlen : ks.length ≤ 2 ^ 20)
    (cnt : slC[cm]? = some (.gmap (upG KeyT FactT (cntM (cntK r ks))))) (hsm : ∀ f ∈ cntK r ks, smallF f) (hc2 : slC[c2]? = some (.gmap [])) (hr : slC[rb]? = some (cRd cm c2 s3 nilSV)) :
    ∃ sl2 E, iter FUEL (arrival_read.loop3 h3 s29) (0, hL slC) = some (.ex0 (), hL sl2) ∧ C3 slC sl2 rb cm c2 (cntK r ks) (cntK r ks) s3 E := by
  have hlc := (List.getElem?_eq_some_iff.1 hc2).1
  have hlr := (List.getElem?_eq_some_iff.1 hr).1
  have hlm := (List.getElem?_eq_some_iff.1 cnt).1
  have hcl : ∀ ks' : List Ky, (cntK r ks').length ≤ ks'.length := fun ks' => List.length_filterMap_le _ _
  obtain ⟨q, hq, hp⟩ := iter_inv (f := arrival_read.loop3 h3 s29) (Inv := fun st => ∃ (i : Nat) (sl2 : List Slot) (E : FamE), st = ((i : Int), hL sl2) ∧ i ≤ ks.length ∧ C3 slC sl2 rb cm c2 (cntK r ks) (cntK r (ks.take i)) s3 E)
    (Post := fun q => ∃ sl2 E, q = (.ex0 (), hL sl2) ∧ C3 slC sl2 rb cm c2 (cntK r ks) (cntK r ks) s3 E) (fun st => ks.length - st.1.toNat) (fun st hi => by
      obtain ⟨i, sl2, E, rfl, hil, c⟩ := hi
      by_cases hlt : i < ks.length
      · left
        have hx : ks[i]? = some ks[i] := List.getElem?_eq_getElem hlt
        obtain ⟨sl3, E3, h1, c3⟩ := read3_round hrb hne ⟨hlm, hlc, hlr⟩ A ho hx hlen (by have := hcl (ks.take i); rw [List.length_take] at this; omega) cnt hsm c
        rw [find_cntK (List.getElem_mem hlt), ← cntK_snoc, ← take_snoc hx] at c3
        exact ⟨_, h1, ⟨i + 1, sl3, E3, rfl, by omega, c3⟩, by simp only [Int.toNat_natCast]; omega⟩
      · right
        have : i = ks.length := by omega
        subst this
        refine ⟨(.ex0 (), hL sl2), ?_, sl2, E, rfl, by rw [List.take_length] at c; exact c⟩
        unfold arrival_read.loop3
        try simp -implicitDefEqProofs only [A.len]
        rw [decide_eq_false (by omega), cond_false]) FUEL (0, hL slC) ⟨0, slC, [], rfl, Nat.zero_le _, ⟨fun _ _ _ _ => rfl, Fam.nil hc2, ⟨nilSV, none, hr, Acc.nil, fun j e => by cases e⟩, Nat.le_refl _⟩⟩ (fuel_gt (by simp only [Int.toNat_zero]; omega))
  obtain ⟨sl2, E, rfl, h⟩ := hp
  exact ⟨sl2, E, hq, h⟩
def dedK : List Ky → List Ky
  | [] => []
  | k :: l => if k ∈ dedK l then dedK l else k :: dedK l
theorem dedK_mem : ∀ (l : List Ky) (k : Ky), k ∈ dedK l ↔ k ∈ l
  | [], k => Iff.rfl
  | a :: l, k => by
    have ih := dedK_mem l
    simp only [dedK]
    split
    · rename_i h
      rw [ih, List.mem_cons]
      refine ⟨.inr, fun h' => ?_⟩
      rcases h' with rfl | h'
      · exact (ih _).1 h
      · exact h'
    · rw [List.mem_cons, List.mem_cons, ih]
theorem dedK_nodup : ∀ l : List Ky, (dedK l).Nodup
  | [] => List.nodup_nil
  | a :: l => by
    simp only [dedK]
    split
    · exact dedK_nodup l
    · rename_i h
      exact List.nodup_cons.2 ⟨h, dedK_nodup l⟩
def ksF (r : List Fct) : List Ky := sortB cmpK (dedK (r.map keyF))
theorem nodup_cmp {l : List Ky} : l.Nodup ↔ l.Pairwise fun a b => cmpK a b ≠ 0 :=
  ⟨fun h => h.imp fun hne e => hne (cmpK_to.zero _ _ e), fun h => h.imp fun hne e => hne (by rw [e]; exact cmpK_to.refl _)⟩
theorem ksF_sorted (r : List Fct) : (ksF r).Pairwise fun a b => cmpK a b < 0 := sortB_sorted cmpK_to.ord (nodup_cmp.1 (dedK_nodup _))
theorem ksF_mem (r : List Fct) (k : Ky) : k ∈ ksF r ↔ grp r k ≠ [] := by
  unfold ksF
  rw [sortB_perm.mem_iff, dedK_mem, List.mem_map]
  constructor
  · rintro ⟨f, hf, rfl⟩ h
    have : f ∈ grp r (keyF f) := List.mem_filter.2 ⟨hf, by simp⟩
    rw [h] at this; simp at this
  · intro h
    obtain ⟨f, hf⟩ := List.exists_mem_of_ne_nil _ h
    obtain ⟨h1, h2⟩ := List.mem_filter.1 hf
    exact ⟨f, h1, by simpa using h2⟩
theorem ksF_nodup (r : List Fct) : (ksF r).Nodup := nodup_cmp.2 ((ksF_sorted r).imp fun h => by omega)
theorem ksF_is {r : List Fct} {l : List Ky} (hn : l.Pairwise fun a b => cmpK a b ≠ 0) (hm : ∀ k, k ∈ l ↔ grp r k ≠ []) : sortB cmpK l = ksF r := by
  have hp : l.Perm (dedK (r.map keyF)) := (List.perm_ext_iff_of_nodup (nodup_cmp.2 hn) (dedK_nodup _)).2 fun k => by
    rw [hm, ← ksF_mem]
    unfold ksF
    rw [sortB_perm.mem_iff]
  exact sorted_unique cmpK_to.ord ((sortB_perm.trans hp).trans sortB_perm.symm) (sortB_sorted cmpK_to.ord hn) (ksF_sorted r)
theorem dedK_len : ∀ l : List Ky, (dedK l).length ≤ l.length
  | [] => Nat.le_refl _
  | a :: l => by
    have := dedK_len l
    simp only [dedK]
    split <;> simp only [List.length_cons] <;> omega
theorem ksF_len (r : List Fct) : (ksF r).length ≤ r.length := by
  have := dedK_len (r.map keyF)
  rw [List.length_map] at this
  unfold ksF
  rw [sortB_perm.length_eq]
  exact this
theorem deads_hL (sl : List Slot) (k : Nat) : deads (hL sl) k = hL (sl ++ List.replicate k .dead) := by
  refine H.ext' (by simp [deads, hL]) fun i => ?_
  simp only [deads, hL_next, hL_m]
  rcases Nat.lt_or_ge i sl.length with h | h
  · rw [blt_t h, cond_true, get_app h]
  · rw [blt_f h, cond_false, List.getElem?_append_right h]
    rcases Nat.lt_or_ge i (sl.length + k) with h2 | h2
    · rw [blt_t h2, cond_true, List.getElem?_replicate, if_pos (by omega)]; rfl
    · rw [blt_f h2, cond_false, List.getElem?_replicate, if_neg (by omega)]; rfl
theorem keys_ok {slA : List Slot} {m lo : Nat} {r : List Fct} {E : FamE} (F : Fam slA m lo (grp r) E) (hr : r.length ≤ 2000) : ∃ slB s o, sortedKeys (.func 111 [.hp slA.length 1 0]) (.func 58 []) (hL (slA ++ [.own [.map (some m)] 1])) = some (s, hL slB) ∧ Acc slB KC (ksF r) s o ∧ (∀ j, o = some j → slA.length ≤ j) ∧ slA.length ≤ slB.length ∧ ∀ j, j < slA.length → slB[j]? = slA[j]? := by
  have F1 : Fam (slA ++ [.own [.map (some m)] 1]) m lo (grp r) E := F.more
  have hmap : rdT (.leaf .map) (hL (slA ++ [.own [.map (some m)] 1])) (.hp slA.length 1 0) = some (some m) := by rw [rd_own (g := 1) (e := 1) (cs := [.map (some m)]) new_at rfl]; rfl
  have hk : sortB cmpK ((famE E).map (·.1)) = ksF r := by
    have : (famE E).map (·.1) = E.map (·.1) := by unfold famE; rw [List.map_map]; rfl
    rw [this]
    exact ksF_is F.nodup F.mem
  have hlen : (famE E).length = E.length := by unfold famE; rw [List.length_map]
  have hpw : ((famE E).map (·.1)).Pairwise fun a b => cmpK a b ≠ 0 := by
    have : (famE E).map (·.1) = E.map (·.1) := by unfold famE; rw [List.map_map]; rfl
    rw [this]; exact F.nodup
  have hkl : (ksF r).length = E.length := by rw [← hk, sortB_perm.length_eq, List.length_map, hlen]
  have hE : E.length ≤ r.length := by rw [← hkl]; exact ksF_len r
  unfold sortedKeys
  simp only
  rw [hmap]
  simp only [Option.bind_some]
  rw [gmap_rows F1.map, Option.bind_some, guardO_pos ⟨by omega, hpw⟩, hlen]
  by_cases h0 : E.length = 0
  · rw [if_pos h0, deads_hL]
    have : ksF r = [] := List.eq_nil_of_length_eq_zero (by omega)
    rw [this]
    exact ⟨_, _, none, rfl, Acc.nil', fun j e => (by cases e), (by simp), fun j hj => (by rw [List.append_assoc, get_app hj])⟩
  · rw [if_neg h0, deads_hL, hL_new, deads_hL, hk, ← hkl]
    refine ⟨_, _, some ((slA ++ [Slot.own [.map (some m)] 1]).length + 5), rfl, ⟨by omega, rfl, ?_⟩, fun j e => ?_, by simp, fun j hj => ?_⟩
    · rw [get_app (by simp)]
      rw [show (slA ++ [Slot.own [.map (some m)] 1]).length + 5 = (slA ++ [Slot.own [.map (some m)] 1] ++ List.replicate 5 Slot.dead).length by simp]
      exact new_at
    · cases e; rw [len_app1]; omega
    · rw [get_app (by simp; omega), get_app (by simp; omega), get_app (by simp; omega), get_app hj]
def cntF (r : List Fct) : List Fct := cntK r (ksF r)
def conF (r : List Fct) : List Ky := conK r (ksF r)
structure RD (sl sl' : List Slot) (r : List Fct) (s3 s4 : SV) : Prop where
  len : sl.length + 5 ≤ sl'.length
  old : ∀ j, j < sl.length → sl'[j]? = sl[j]?
  cnt : sl'[sl.length + 1]? = some (.gmap (upG KeyT FactT (cntM (cntF r))))
  cor : ∃ lo E, sl.length + 2 < lo ∧ Fam sl' (sl.length + 2) lo (corF (cntF r) (cntF r)) E
  con : ∃ o, Acc sl' KC (conF r) s3 o
  rfs : ∃ o, Acc sl' KC (rfsF (cntF r) (cntF r)) s4 o
theorem onceF_len (l : List Fct) : (onceF l).length ≤ l.length := by
  have h1 := compF_len (sortF l)
  have h2 : (sortF l).length = l.length := sortB_perm.length_eq
  unfold onceF
  omega
theorem compF_mem {l : List Fct} {f : Fct} : f ∈ compF l ↔ f ∈ l := by
  have : ∀ (l : List Fct) (p : Fct), (f ∈ compG p l ∨ f = p) ↔ (f ∈ l ∨ f = p) := fun l => by
    induction l with
    | nil => intro p; simp [compG]
    | cons y l ih =>
      intro p
      simp only [compG]
      split
      · rename_i h
        have hy := cmpF_to.zero _ _ h
        subst hy
        rw [ih y, List.mem_cons]
        constructor
        · rintro (h | h)
          · exact .inl (.inr h)
          · exact .inr h
        · rintro ((h | h) | h)
          · exact .inr h
          · exact .inl h
          · exact .inr h
      · rw [List.mem_cons, List.mem_cons]
        have := ih y
        constructor
        · rintro ((h | h) | h)
          · exact .inl (.inl h)
          · rcases this.1 (.inl h) with k | k
            · exact .inl (.inr k)
            · exact .inl (.inl k)
          · exact .inr h
        · rintro ((h | h) | h)
          · exact .inl (.inl h)
          · rcases this.2 (.inl h) with k | k
            · exact .inl (.inr k)
            · exact .inl (.inl k)
          · exact .inr h
  cases l with
  | nil => simp [compF]
  | cons x l =>
    simp only [compF, List.mem_cons]
    have := this l x
    constructor
    · rintro (h | h)
      · exact .inl h
      · rcases this.1 (.inl h) with k | k
        · exact .inr k
        · exact .inl k
    · rintro (h | h)
      · exact .inl h
      · rcases this.2 (.inl h) with k | k
        · exact .inr k
        · exact .inl k
theorem onceF_mem {l : List Fct} {f : Fct} : f ∈ onceF l ↔ f ∈ l := by
  unfold onceF
  rw [compF_mem]
  exact sortB_perm.mem_iff
theorem wr_read {sl : List Slot} {e : Nat} {c1 c2 : Nat} {s3 s4 : SV} {a b : V} {i : Nat} {cs : List V} (h : sl[i]? = some (.own cs 4)) (hc : cs.length = 4) : H.wrs (hL sl) (.hp i 4 0) [.map (some c1), .map (some c2), .slice s3.a s3.len s3.cap s3.tail, .slice s4.a s4.len s4.cap s4.tail] = some (hL (sl.set i (cRd c1 c2 s3 s4))) := wr_all h hc rfl
abbrev rd0 : Slot := .own [.map none, .map none, .slice .nil 0 0 false, .slice .nil 0 0 false] 4
theorem read_ok {l : List Fct} (hl : l.length ≤ 19) (hs : ∀ x ∈ l, smallF x) {a0 : SV} (ha : ∀ h, rdRow true h FC a0 = some l) (sl : List Slot) :
    ∃ sl' s3 s4, arrival_read a0 (hL sl) = some ((some (sl.length + 1), some (sl.length + 2), s3, s4), hL sl') ∧ RD sl sl' (onceF l) s3 s4 := by
  have hol := onceF_len l
  have hos : ∀ x ∈ onceF l, smallF x := fun x hx => hs x (onceF_mem.1 hx)
  obtain ⟨n, hn⟩ : ∃ n, n = sl.length := ⟨_, rfl⟩
  obtain ⟨B, hB⟩ : ∃ B, B = sl ++ [rd0] ++ [.gmap []] ++ [.gmap []] ++ [cRd (n + 1) (n + 2) nilSV nilSV] ++ [.gmap []] := ⟨_, rfl⟩
  have lB : B.length = n + 5 := by rw [hB]; simp [hn]
  have B1 : B[n + 1]? = some (.gmap []) := by rw [hB, hn]; simp
  have B2 : B[n + 2]? = some (.gmap []) := by rw [hB, hn]; simp
  have B3 : B[n + 3]? = some (cRd (n + 1) (n + 2) nilSV nilSV) := by rw [hB, hn]; simp
  have B4 : B[n + 4]? = some (.gmap []) := by rw [hB, hn]; simp
  have B0 : B[n]? = some rd0 := by rw [hB, hn]; simp
  have Bo : ∀ j, j < n → B[j]? = sl[j]? := fun j hj => by
    rw [hB, get_app (by simp; omega), get_app (by simp; omega), get_app (by simp; omega), get_app (by simp; omega), get_app (by omega)]
  obtain ⟨slA, E, p1, F, lA, gA⟩ := read1_ok (h5 := hL (sl ++ [rd0] ++ [.gmap []] ++ [.gmap []] ++ [cRd (n + 1) (n + 2) nilSV nilSV])) (r := onceF l) (sl := B) (m := n + 4) (lo := n + 5) (by rw [hL_next]; simp [hn]) B4 (by omega) (by omega) (by omega)
  obtain ⟨slB, s29, o29, p2, A29, ho29, lB2, gB⟩ := keys_ok F (by omega)
  have FB : Fam slB (n + 4) (n + 5) (grp (onceF l)) E := F.frame fun j hj => gB j (by
    rcases hj with rfl | ⟨a, e, ha, rfl⟩
    · exact (List.getElem?_eq_some_iff.1 F.map).1
    · exact F.lt ha)
  have hkl := ksF_len (onceF l)
  obtain ⟨slC, p3, cc⟩ := read2_ok (h3 := hL (sl ++ [rd0] ++ [.gmap []] ++ [.gmap []])) (h5 := hL (sl ++ [rd0] ++ [.gmap []] ++ [.gmap []] ++ [cRd (n + 1) (n + 2) nilSV nilSV])) (rb := n + 3) (cm := n + 1) (c2 := n + 2) (by rw [hL_next]; simp [hn]) (by rw [hL_next]; simp [hn]) (by omega) (by omega) FB A29 (fun j hj => by have := ho29 j hj; omega) (fun k hk => (ksF_mem _ _).1 hk) (ksF_nodup _) (by omega)
    (by rw [gB _ (by omega), gA _ (by omega) (by omega)]; exact B1) (by rw [gB _ (by omega), gA _ (by omega) (by omega)]; exact B3)
  obtain ⟨oldC, cntC, ⟨s3, o3, rdC, acc3, ho3⟩, lC⟩ := cc
  have A29C : Acc slC KC (ksF (onceF l)) s29 o29 := A29.frame fun j hj => by
    have := ho29 j hj
    subst hj
    exact oldC j A29.lt (by omega) (by omega)
  obtain ⟨slD, E3, p4, cd⟩ := read3_ok (h3 := hL (sl ++ [rd0] ++ [.gmap []] ++ [.gmap []])) (rb := n + 3) (cm := n + 1) (c2 := n + 2) (s3 := s3) (by rw [hL_next]; simp [hn]) (by omega) A29C (fun j hj => by have := ho29 j hj; omega) (by omega) cntC (fun f hf => hos f (cntK_key hf).2.1)
    (by rw [oldC _ (by omega) (by omega) (by omega), gB _ (by omega), gA _ (by omega) (by omega)]; exact B2) rdC
  obtain ⟨oldD, famD, ⟨s4, o4, rdD, acc4, ho4⟩, lD⟩ := cd
  have nD : slD[n]? = some rd0 := by rw [oldD _ (by omega) (by omega) (by omega), oldC _ (by omega) (by omega) (by omega), gB _ (by omega), gA _ (by omega) (by omega), B0]
  have acc3D : Acc slD KC (conF (onceF l)) s3 o3 := acc3.frame fun j hj => by
    have := ho3 j hj
    subst hj
    exact oldD j acc3.lt (by omega) (by omega)
  have hne3 : ∀ j, o3 = some j → j ≠ n := fun j hj => by have := ho3 j hj; omega
  have hne4 : ∀ j, o4 = some j → j ≠ n := fun j hj => by have := (ho4 j hj).1; omega
  refine ⟨slD.set n (cRd (n + 1) (n + 2) s3 s4), s3, s4, ?_, ?_⟩
  · unfold arrival_read
    try simp -implicitDefEqProofs only [hL_new, hL_newS, hL_next]
    have w1 : H.wrs (hL (sl ++ [rd0] ++ [Slot.gmap []] ++ [Slot.gmap []] ++ [rd0])) (.hp (sl ++ [rd0] ++ [Slot.gmap []] ++ [Slot.gmap []]).length 4 0) [.map (some (sl ++ [rd0]).length), .map (some (sl ++ [rd0] ++ [Slot.gmap []]).length), .slice .nil 0 0 false, .slice .nil 0 0 false] = some (hL (sl ++ [rd0] ++ [Slot.gmap []] ++ [Slot.gmap []] ++ [cRd (n + 1) (n + 2) nilSV nilSV])) := by
      rw [wr_new (g := 4) (e := 4) (cs := [.map none, .map none, .slice .nil 0 0 false, .slice .nil 0 0 false]) rfl rfl rfl, hn, show (sl ++ [rd0]).length = sl.length + 1 by simp, show (sl ++ [rd0] ++ [Slot.gmap []]).length = sl.length + 2 by simp]
      rfl
    rw [w1, Option.bind_some, hL_newS, ← hB, ha, Option.bind_some, Set_ok l hl hs, Option.bind_some, p1, Option.bind_some]
    simp only [hL_next]
    unfold maps_Keys_map_api_Key_api_Fact_api_Key_api_Fact
    rw [hL_new]
    simp only [Option.bind_some, hL_next]
    rw [show (sl ++ [rd0] ++ [Slot.gmap []] ++ [Slot.gmap []] ++ [cRd (n + 1) (n + 2) nilSV nilSV]).length = n + 4 by simp [hn], p2, Option.bind_some]
    simp only
    rw [p3, Option.bind_some]
    simp only
    rw [p4, Option.bind_some]
    simp only
    rw [show (sl ++ [rd0] ++ [Slot.gmap []] ++ [Slot.gmap []]).length = n + 3 by simp [hn], (rd_cRd rdD).2.2.2.2, Option.bind_some]
    simp only
    rw [← hn, wr_read (e := 0) (a := .nil) (b := .nil) (cs := [.map none, .map none, .slice .nil 0 0 false, .slice .nil 0 0 false]) (nD) rfl, Option.bind_some, (rd_cRd (List.getElem?_set_self (by omega))).2.2.2.2, Option.bind_some]
  · have gset : ∀ j, j ≠ n → (slD.set n (cRd (n + 1) (n + 2) s3 s4))[j]? = slD[j]? := fun j hj => by rw [List.getElem?_set_ne (by omega)]
    subst hn
    refine ⟨by rw [List.length_set]; omega, fun j hj => ?_, ?_, ⟨slC.length, E3, by omega, famD.frame fun j hj => gset j ?_⟩, ⟨o3, acc3D.frame fun j hj => gset j (hne3 j hj)⟩, ⟨o4, acc4.frame fun j hj => gset j (hne4 j hj)⟩⟩
    · rw [gset j (by omega), oldD _ (by omega) (by omega) (by omega), oldC _ (by omega) (by omega) (by omega), gB _ (by omega), gA _ (by omega) (by omega), Bo j hj]
    · rw [gset _ (by omega), oldD _ (by omega) (by omega) (by omega)]
      exact cntC
    · rcases hj with rfl | ⟨a, e, ha, rfl⟩
      · omega
      · have := (famD.cells a e ha).2.1; omega
theorem sortX_own {g : FuncId} {ls : List Leaf} {c : LT ls → LT ls → Int} {okb : LT ls → Bool} {sl : List Slot} {i : Nat} {ks : List (LT ls)} (hpl : LT.plain ls = true) (hpos : 0 < ls.length) (hi : sl[i]? = some (.own (cellsL ls ks) ls.length)) (h0 : ks ≠ []) (hl : ks.length ≤ 2000) (hok : ∀ x ∈ ks, okb x = true) (hp : ks.Pairwise fun a b => c a b ≠ 0) :
    sortX g ls c okb (ownSV i ls ks.length) (.func g []) (hL sl) = some ((), hL (sl.set i (.own (cellsL ls (sortB c ks)) ls.length))) := by
  have hil := (List.getElem?_eq_some_iff.1 hi).1
  have hm : (hL sl).m i = .own (cellsL ls ks) ls.length := by rw [hL_m, hi]; rfl
  have hn : ks.length ≠ 0 := fun e => h0 (List.eq_nil_of_length_eq_zero e)
  have hcl : (cellsL ls ks).length = ks.length * ls.length := flat_length (ls := ls) ks
  have hmul : ks.length * ls.length ≠ 0 := Nat.ne_of_gt (Nat.mul_pos (by omega) hpos)
  have hrd : (hL sl).rds (.hp i (ks.length * ls.length) 0) (ks.length * ls.length) = some (cellsL ls ks) := by
    simp only [H.rds, H.from, hm, hcl, if_true, List.drop_zero, Option.bind_some]
    rw [if_pos ⟨Nat.le_refl _, hmul⟩, List.take_of_length_le (by rw [hcl]; exact Nat.le_refl _)]
  have hmp : mapO (fun x => (rdLT true ((hL sl).put i .dead) ls x).bind fun y => some (y, x)) (chunks ls.length ks.length (cellsL ls ks)) = some (ks.map fun y => (y, LT.lo true ls y)) := by
    rw [chunks_flat]
    have : ∀ (ys : List (LT ls)), mapO (fun x => (rdLT true ((hL sl).put i .dead) ls x).bind fun y => some (y, x)) (ys.map fun x => LT.lo true ls x) = some (ys.map fun y => (y, LT.lo true ls y)) := fun ys => by
      induction ys with
      | nil => rfl
      | cons y ys ih => simp only [List.map_cons, mapO, rdLT_lo (f := true) (lp := true) rfl ls y hpl, Option.bind_some, ih]
    exact this ks
  have hsort : (sortB (fun p q : LT ls × List V => c p.1 q.1) (ks.map fun y => (y, LT.lo true ls y))).flatMap (·.2) = cellsL ls (sortB c ks) := by
    rw [sortB_map (fun y : LT ls => (y, LT.lo true ls y)) (fun p q : LT ls × List V => c p.1 q.1), List.flatMap_map]
  have hsl : (cellsL ls (sortB c ks)).length = ks.length * ls.length := by rw [flat_length (ls := ls), sortB_perm.length_eq]
  show (if g = g then (if ks.length = 0 then some ((), hL sl) else ((hL sl).rds (.hp i (ks.length * ls.length) 0) (ks.length * ls.length)).bind fun cs => (mapO (fun x => (rdLT true ((hL sl).put i .dead) ls x).bind fun y => some (y, x)) (chunks ls.length ks.length cs)).bind fun ps =>
    guardO (ks.length ≤ 2 ^ 20 ∧ ps.all (fun p => okb p.1) = true ∧ ps.Pairwise fun p q => c p.1 q.1 ≠ 0)
        (((hL sl).wrs (.hp i (ks.length * ls.length) 0) ((sortB (fun p q => c p.1 q.1) ps).flatMap (·.2))).bind fun h' => some ((), h'))) else none) = _
  rw [if_pos rfl, if_neg hn, hrd, Option.bind_some, hmp, Option.bind_some, guardO_pos ⟨by omega, by simpa using fun x hx => hok x hx, by rw [List.pairwise_map]; exact hp⟩, hsort]
  rw [wr_all hi hcl (by rw [hsl]), Option.bind_some]
theorem sortX_acc {g : FuncId} {ls : List Leaf} {c : LT ls → LT ls → Int} {okb : LT ls → Bool} {sl : List Slot} {ks : List (LT ls)} {s : SV} {o : Option Nat} (hpl : LT.plain ls = true) (hpos : 0 < ls.length) (A : Acc sl ls ks s o) (hl : ks.length ≤ 2000) (hok : ∀ x ∈ ks, okb x = true) (hp : ks.Pairwise fun a b => c a b ≠ 0) :
    ∃ sl', sortX g ls c okb s (.func g []) (hL sl) = some ((), hL sl') ∧ Acc sl' ls (sortB c ks) s o ∧ sl'.length = sl.length ∧ ∀ j, o ≠ some j → sl'[j]? = sl[j]? := by
  cases o with
  | none =>
    obtain ⟨rfl, hs⟩ := A
    refine ⟨sl, ?_, ⟨rfl, hs⟩, rfl, fun _ _ => rfl⟩
    unfold sortX sortC
    simp only [if_true]
    rw [if_pos (by rcases hs with rfl | rfl <;> rfl)]
  | some id =>
    obtain ⟨h1, rfl, h3⟩ := A
    refine ⟨_, sortX_own hpl hpos h3 (fun e => by rw [e] at h1; simp at h1) hl hok hp, ⟨?_, ?_, ?_⟩, by rw [List.length_set], fun j hj => ?_⟩
    · rw [sortB_perm.length_eq]; exact h1
    · rw [sortB_perm.length_eq]
    · rw [List.getElem?_set_self (List.getElem?_eq_some_iff.1 h3).1]
    · rw [List.getElem?_set_ne (fun e => hj (by rw [e]))]
abbrev cOut (a b c d : SV) : Slot := .own [.slice a.a a.len a.cap a.tail, .slice b.a b.len b.cap b.tail, .slice c.a c.len c.cap c.tail, .slice d.a d.len d.cap d.tail] 4
theorem rd_cOut {sl : List Slot} {id : Nat} {a b c d : SV} (h : sl[id]? = some (cOut a b c d)) :
    rdT (.leaf .slice) (hL sl) (.hp id 4 0) = some a ∧ rdT (.leaf .slice) (hL sl) (.hp id 4 2) = some c ∧ rdT (.agg [.slice, .slice, .slice, .slice]) (hL sl) (.hp id 4 0) = some (a, b, c, d) := by
  refine ⟨?_, ?_, ?_⟩
  · rw [rd_own (g := 4) h rfl]; rfl
  · rw [rd_own (g := 4) h rfl]; rfl
  · rw [rds_hp (by simp), hL_m, h]; rfl
theorem wr_cOut {sl : List Slot} {id : Nat} {a b c d : SV} (h : sl[id]? = some (cOut a b c d)) (s : SV) :
    H.wrs (hL sl) (.hp id 4 0) [.slice s.a s.len s.cap s.tail] = some (hL (sl.set id (cOut s b c d))) ∧ H.wrs (hL sl) (.hp id 4 2) [.slice s.a s.len s.cap s.tail] = some (hL (sl.set id (cOut a b s d))) := by
  constructor <;> (rw [wrs_own (g := 4) h rfl (by simp)]; rfl)
def effF (C : List Fct) (f : Fct) : Option Fct :=
  match (corF C C (keyF f)).getLast? with
  | none => some f
  | some c => if c.2.2.2.1 = 90 then some (targetF c).1 else none
def effO (C : List Fct) (f : Fct) : Option Fct := if corrects f = true then none else effF C f
structure M1 (slM sl : List Slot) (b mid n : Nat) (s3 s4 : SV) (seen : List Nat) (fs : List Fct) : Prop where
  old : ∀ j, j < slM.length → j ≠ b → sl[j]? = slM[j]?
  it : sl[slM.length]? = some (.miter mid n seen)
  out : ∃ s1 o1, sl[b]? = some (cOut s1 s3 nilSV s4) ∧ Acc sl FC fs s1 o1 ∧ ∀ j, o1 = some j → slM.length < j
  len : slM.length < sl.length
theorem M1.more {slM sl : List Slot} {b mid n : Nat} {s3 s4 : SV} {seen : List Nat} {fs : List Fct} (c : M1 slM sl b mid n s3 s4 seen fs) (hb : b < slM.length) (t : List Slot) : M1 slM (sl ++ t) b mid n s3 s4 seen fs := by
  obtain ⟨old, it, ⟨s1, o1, out, acc, ho⟩, len⟩ := c
  exact ⟨fun j hj h1 => by rw [get_app (by omega)]; exact old j hj h1, by rw [get_app len]; exact it, ⟨s1, o1, by rw [get_app (by omega)]; exact out, acc.more, ho⟩, by rw [List.length_append]; omega⟩
theorem M1.app {slM sl : List Slot} {b mid n : Nat} {s3 s4 : SV} {seen : List Nat} {fs : List Fct} (c : M1 slM sl b mid n s3 s4 seen fs) (hb : b < slM.length) (hn : fs.length ≤ 2 ^ 20) (x : Fct) :
    ∃ s1 sA s' sl5, rdT (.leaf .slice) (hL sl) (.hp b 4 0) = some s1 ∧ appendS (hL sl) none 6 80 s1 (cellsF true x) 1 = some (s', hL sA) ∧ H.wrs (hL sA) (.hp b 4 0) [.slice s'.a s'.len s'.cap s'.tail] = some (hL sl5) ∧ M1 slM sl5 b mid n s3 s4 seen (fs ++ [x]) := by
  obtain ⟨old, it, ⟨s1, o1, out, acc, ho⟩, len⟩ := c
  obtain ⟨s', sA, id', k1, k2, k3, k4, k5⟩ := acc.append (w := 6) (b := 80) (x := x) (vs := cellsF true x) rfl (by decide) (by omega) (by decide) rfl
  have outA : sA[b]? = some (cOut s1 s3 nilSV s4) := by rw [k5 b (fun e => by have := ho b e; omega) (by omega)]; exact out
  have hid : slM.length < id' := by
    rcases k3 with k3 | ⟨_, k3⟩
    · exact ho _ k3
    · omega
  refine ⟨s1, sA, s', sA.set b (cOut s' s3 nilSV s4), (rd_cOut out).1, k1, (wr_cOut outA s').1, ⟨fun j hj h1 => ?_, ?_, ⟨s', some id', ?_, ?_, fun j e => by cases e; exact hid⟩, by rw [List.length_set]; omega⟩⟩
  · rw [List.getElem?_set_ne (by omega), k5 j (fun e => by have := ho j e; omega) (by omega)]
    exact old j hj h1
  · rw [List.getElem?_set_ne (by omega), k5 _ (fun e => by have := ho _ e; omega) len]
    exact it
  · rw [List.getElem?_set_self (by omega)]
  · exact k2.frame fun j e => by
      cases e
      rw [List.getElem?_set_ne (by omega)]
theorem wr_prev {sl : List Slot} {k : Ky} {t : Slot} : H.wrs (hL (sl ++ [.own zK 3] ++ [t])) (.hp sl.length 3 0) [.int .i64 k.1, .int .i64 k.2.1, .int .i64 k.2.2] = some (hL (sl ++ [cKy k] ++ [t])) := by
  rw [wr_all (e := 3) (cs := zK) (g := 3) new_at1 rfl rfl]
  have : (sl ++ [Slot.own zK 3] ++ [t]).set sl.length (cKy k) = sl ++ [cKy k] ++ [t] := by rw [set_app (by simp), set_new rfl]
  rw [this]
theorem wr_fact2 {sl : List Slot} {s : Slot} {f : Bool} {x : Fct} : H.wrs (hL (sl ++ [s] ++ [.own zF 6])) (.hp (sl.length + 1) 6 0) (cellsF f x) = some (hL (sl ++ [s] ++ [cFt f x])) := by
  have := wr_fact (sl := sl ++ [s]) (f := f) (x := x)
  rw [len_app1] at this
  exact this
theorem wr_fact3 {sl : List Slot} {s t : Slot} {f : Bool} {x : Fct} : H.wrs (hL (sl ++ [s] ++ [t] ++ [.own zF 6])) (.hp (sl.length + 2) 6 0) (cellsF f x) = some (hL (sl ++ [s] ++ [t] ++ [cFt f x])) := by
  have := wr_fact (sl := sl ++ [s] ++ [t]) (f := f) (x := x)
  rw [len_app1, len_app1] at this
  exact this
theorem wr_fact4 {sl : List Slot} {s t u : Slot} {f : Bool} {x : Fct} : H.wrs (hL (sl ++ [s] ++ [t] ++ [u] ++ [.own zF 6])) (.hp (sl.length + 3) 6 0) (cellsF f x) = some (hL (sl ++ [s] ++ [t] ++ [u] ++ [cFt f x])) := by
  have := wr_fact (sl := sl ++ [s] ++ [t] ++ [u]) (f := f) (x := x)
  rw [len_app1, len_app1, len_app1] at this
  exact this
theorem at_1 {sl : List Slot} {s t : Slot} : (sl ++ [s] ++ [t])[sl.length + 1]? = some t := by simp
theorem at_2 {sl : List Slot} {s t u : Slot} : (sl ++ [s] ++ [t] ++ [u])[sl.length + 2]? = some u := by simp
theorem at_3 {sl : List Slot} {s t u v : Slot} : (sl ++ [s] ++ [t] ++ [u] ++ [v])[sl.length + 3]? = some v := by simp
theorem rd_kind {f : Bool} {sl : List Slot} {id : Nat} {x : Fct} (h : sl[id]? = some (cFt f x)) : rdT (.leaf (.int .i64)) (hL sl) (.hp id 6 3) = some x.2.2.2.1 := (rd_cFt h).2.2.2.1
theorem len_app2 {sl : List Slot} {s t : Slot} : (sl ++ [s] ++ [t]).length = sl.length + 2 := by simp
theorem len_app3 {sl : List Slot} {s t u : Slot} : (sl ++ [s] ++ [t] ++ [u]).length = sl.length + 3 := by simp
theorem corF_mem {C D : List Fct} {k : Ky} {f : Fct} (h : f ∈ corF C D k) : f ∈ D ∧ corrects f = true ∧ refF C f = false ∧ keyF (targetF f).1 = k := by
  obtain ⟨h1, h2⟩ := List.mem_filter.1 h
  simp only [Bool.and_eq_true, Bool.not_eq_true', decide_eq_true_eq] at h2
  exact ⟨h1, h2.1.1, h2.1.2, h2.2⟩
theorem merge1_round {h7 h9 h13 : H} {slM sl : List Slot} {p b mid n c2 lo i : Nat} {s3 s4 s3' s4' : SV} {seen : List Nat} {fs C : List Fct} {E : FamE} {f : Fct} (h7n : h7.next = p) (h9n : h9.next = b) (h13n : h13.next = slM.length) (hb : b < slM.length) (hpb : p ≠ b) (hmb : mid ≠ b)
    (hrd : slM[p]? = some (cRd mid c2 s3' s4')) (hmap : slM[mid]? = some (.gmap (upG KeyT FactT (cntM C)))) (hn : C.length = n) (F : Fam slM c2 lo (corF C C) E) (hc2 : c2 ≠ b) (hlo : ∀ (i : Nat) (e : FamR), E[i]? = some e → e.2.1 ≠ b) (hsm : ∀ f ∈ C, smallF f) (hC : C.length ≤ 2 ^ 20) (hfs : fs.length ≤ 2 ^ 20)
    (hf : C[i]? = some f) (c : M1 slM sl b mid n s3 s4 seen fs) :
    ∃ sl2, arrival_Merge.loop1 h7 h9 h13 ((), (hL sl).put slM.length (.miter mid n (seen ++ [i]))) = some (.more ((), hL sl2)) ∧ rangeOK ((hL sl).put slM.length (.miter mid n (seen ++ [i]))) (hL sl2) slM.length mid n (seen ++ [i]) = true ∧ M1 slM sl2 b mid n s3 s4 (seen ++ [i]) (fs ++ (effO C f).toList) := by
  have hml := (List.getElem?_eq_some_iff.1 hmap).1
  have hpl := (List.getElem?_eq_some_iff.1 hrd).1
  have hlen := c.len
  obtain ⟨sB, hB⟩ : ∃ sB, sB = sl.set slM.length (.miter mid n (seen ++ [i])) := ⟨_, rfl⟩
  have cB : M1 slM sB b mid n s3 s4 (seen ++ [i]) fs := by
    obtain ⟨old, it, ⟨s1, o1, out, acc, ho⟩, len⟩ := c
    have g : ∀ j, j ≠ slM.length → sB[j]? = sl[j]? := fun j hj => by rw [hB, List.getElem?_set_ne (by omega)]
    exact ⟨fun j hj h1 => by rw [g j (by omega)]; exact old j hj h1, by rw [hB, List.getElem?_set_self len], ⟨s1, o1, by rw [g b (by omega)]; exact out, acc.frame fun j e => g j (by have := ho j e; omega), ho⟩, by rw [hB, List.length_set]; exact len⟩
  rw [hL_put hlen, ← hB]
  have hlenB := cB.len
  have mapB : ∀ sl2, M1 slM sl2 b mid n s3 s4 (seen ++ [i]) fs → True := fun _ _ => trivial
  have hrange : ∀ {sl2 fs2}, M1 slM sl2 b mid n s3 s4 (seen ++ [i]) fs2 → rangeOK (hL sB) (hL sl2) slM.length mid n (seen ++ [i]) = true := fun c2 => by
    simp only [rangeOK, hL_m, cB.old mid hml hmb, c2.old mid hml hmb, hmap, c2.it, Option.getD_some, V.beqs_refl, decide_true, Bool.and_self]
  have hcur : curG (hL sB) (.hp h13.next 0 0 : V) KeyT FactT = some (keyF f, low true f) := by
    simp only [curG, h13n, hL_m, cB.it, Option.getD_some, List.getLast?_append, List.getLast?_singleton, Option.or_some, Option.some_or, Option.bind_some]
    have : (hL sB).gmap mid KeyT FactT = some (cntM C) := gmap_facts (by rw [cB.old mid hml hmb]; exact hmap)
    rw [this, Option.bind_some, guardO_pos (by unfold cntM; rw [List.length_map]; exact hn)]
    unfold cntM
    rw [List.getElem?_map, hf]
    rfl
  have c2' := cB.more hb ([cKy (keyF f)] ++ [cFt true f])
  rw [← List.append_assoc] at c2'
  have K := Corrects_ok f
  by_cases hcor : corrects f = true
  · refine ⟨sB ++ [cKy (keyF f)] ++ [cFt true f], ?_, hrange c2', by rw [effO, if_pos hcor, Option.toList_none, List.append_nil]; exact c2'⟩
    unfold arrival_Merge.loop1
    simp only
    rw [hcur]
    try simp -implicitDefEqProofs only [Option.bind_some, hL_new, hL_next, low, rowSV_len, rowSV_cap, rowSV_tail, wr_prev, len_app1, wr_fact2, rd_fact_all at_1, row_ints', row_texts', K, hcor, cond_true]
  · have hcor' : corrects f = false := by simpa using hcor
    have q2 : rdT (.leaf .map) (hL (sB ++ [cKy (keyF f)] ++ [cFt true f])) (.hp h7.next 4 1) = some (some c2) := by
      rw [h7n]; exact (rd_cRd (by rw [c2'.old p hpl hpb]; exact hrd)).2.1
    have F2 : Fam (sB ++ [cKy (keyF f)] ++ [cFt true f]) c2 lo (corF C C) E := F.frame fun j hj => by
      rcases hj with rfl | ⟨a, e, ha, rfl⟩
      · exact c2'.old _ (List.getElem?_eq_some_iff.1 F.map).1 hc2
      · exact c2'.old _ (F.lt ha) (hlo a e ha)
    have rk : rdT KeyT (hL (sB ++ [cKy (keyF f)] ++ [cFt true f])) (.hp sB.length 3 0) = some (keyF f) := rd_key_all new_at1
    rcases F2.look (keyF f) ⟨.nil, 0, 0, false⟩ with ⟨h0, hlook⟩ | ⟨id, hne, hlook, hcell, _⟩
    · obtain ⟨s1, sA, s', sl5, e1, e2, e3, c5⟩ := c2'.app hb hfs f
      have heff : effO C f = some f := by rw [effO, if_neg hcor, effF, h0]; rfl
      refine ⟨sl5, ?_, hrange c5, by rw [heff]; exact c5⟩
      unfold arrival_Merge.loop1
      simp only
      rw [hcur]
      try simp -implicitDefEqProofs only [Option.bind_some, hL_new, hL_next, low, rowSV_len, rowSV_cap, rowSV_tail, wr_prev, len_app1, wr_fact2, rd_fact_all at_1, row_ints', row_texts', K, hcor', cond_false, q2, rk, hlook]
      rw [decide_eq_true (by rfl), cond_true, h9n, e1]
      try simp -implicitDefEqProofs only [Option.bind_some, low, rowSV_len, rowSV_cap, rowSV_tail, e2, e3]
    · have hpos : 0 < (corF C C (keyF f)).length := List.length_pos_iff.2 hne
      obtain ⟨last, hlast⟩ : ∃ last, (corF C C (keyF f))[(corF C C (keyF f)).length - 1]? = some last := ⟨_, List.getElem?_eq_getElem (by omega)⟩
      have hgl : (corF C C (keyF f)).getLast? = some last := by rw [List.getLast?_eq_getElem?]; exact hlast
      have hcl : (corF C C (keyF f)).length ≤ 2 ^ 20 := len_filter _ _ _ hC
      obtain ⟨lm, _⟩ := corF_mem (List.mem_of_getElem? hlast)
      obtain ⟨sm1, sm2⟩ := hsm last lm
      have T := Target_ok last sm1 sm2
      have of := own_fact hcell hlast
      have hlen1 : ((ownSV id FC (corF C C (keyF f)).length).len : Int) = ((corF C C (keyF f)).length : Int) := rfl
      have c3' := c2'.more hb [cFt true last]
      have heff : effO C f = if last.2.2.2.1 = 90 then some (targetF last).1 else none := by rw [effO, if_neg hcor, effF, hgl]
      by_cases h90 : last.2.2.2.1 = 90
      · obtain ⟨s1, sA, s', sl5, e1, e2, e3, c5⟩ := (c3'.more hb [cFt true (targetF last).1]).app hb hfs (targetF last).1
        refine ⟨sl5, ?_, hrange c5, by rw [heff, if_pos h90]; exact c5⟩
        unfold arrival_Merge.loop1
        simp only
        rw [hcur]
        try simp -implicitDefEqProofs only [Option.bind_some, hL_new, hL_next, low, rowSV_len, rowSV_cap, rowSV_tail, wr_prev, len_app1, wr_fact2, rd_fact_all at_1, row_ints', row_texts', K, hcor', cond_false, q2, rk, hlook]
        rw [hlen1, decide_eq_false (by omega), cond_false, i64q (m := (corF C C (keyF f)).length - 1) (by omega) (by omega), guardO_pos (by omega), Int.toNat_natCast, of]
        try simp -implicitDefEqProofs only [Option.bind_some, hL_new, hL_next, low, rowSV_len, rowSV_cap, rowSV_tail, len_app2, wr_fact3, rd_kind at_2, decide_eq_true h90, cond_true, rd_fact_all at_2, row_ints', row_texts', T, len_app3, wr_fact4, h9n, e1, rd_fact_all at_3, e2, e3]
      · refine ⟨_, ?_, hrange c3', by rw [heff, if_neg h90, Option.toList_none, List.append_nil]; exact c3'⟩
        unfold arrival_Merge.loop1
        simp only
        rw [hcur]
        try simp -implicitDefEqProofs only [Option.bind_some, hL_new, hL_next, low, rowSV_len, rowSV_cap, rowSV_tail, wr_prev, len_app1, wr_fact2, rd_fact_all at_1, row_ints', row_texts', K, hcor', cond_false, q2, rk, hlook]
        rw [hlen1, decide_eq_false (by omega), cond_false, i64q (m := (corF C C (keyF f)).length - 1) (by omega) (by omega), guardO_pos (by omega), Int.toNat_natCast, of]
        try simp -implicitDefEqProofs only [Option.bind_some, hL_new, hL_next, low, rowSV_len, rowSV_cap, rowSV_tail, len_app2, wr_fact3, rd_kind at_2, decide_eq_false h90, cond_false]
theorem merge1_ok {h7 h9 h13 : H} {slM : List Slot} {p b mid n c2 lo : Nat} {s3 s4 s3' s4' : SV} {C : List Fct} {E : FamE} (h7n : h7.next = p) (h9n : h9.next = b) (h13n : h13.next = slM.length) (hb : b < slM.length) (hpb : p ≠ b) (hmb : mid ≠ b)
    (hrd : slM[p]? = some (cRd mid c2 s3' s4')) (hmap : slM[mid]? = some (.gmap (upG KeyT FactT (cntM C)))) (hn : C.length = n) (F : Fam slM c2 lo (corF C C) E) (hc2 : c2 ≠ b) (hlo : ∀ (i : Nat) (e : FamR), E[i]? = some e → e.2.1 ≠ b) (hsm : ∀ f ∈ C, smallF f) (hC : C.length ≤ 2 ^ 18) :
    ∀ (π seen : List Nat) (fs : List Fct) (sl : List Slot), M1 slM sl b mid n s3 s4 seen fs → fs.length + π.length ≤ 2 ^ 19 → (∀ i ∈ π, i < n) →
    ∃ sl2, mrounds slM.length mid n (arrival_Merge.loop1 h7 h9 h13) arrival_Merge.loop1e seen π ((), hL sl) = some (.ex0 (), hL sl2) ∧ M1 slM sl2 b mid n s3 s4 (seen ++ π) (fs ++ π.filterMap fun i => (C[i]?).bind (effO C))
  | [], seen, fs, sl, c, _, _ => ⟨sl, by simp [mrounds, arrival_Merge.loop1e], by simpa using c⟩
  | i :: π, seen, fs, sl, c, hk, hlt => by
    have hi : i < C.length := by rw [hn]; exact hlt i (by simp)
    have hx : C[i]? = some C[i] := List.getElem?_eq_getElem hi
    simp only [List.length_cons] at hk
    obtain ⟨sl2, r1, r2, r3⟩ := merge1_round h7n h9n h13n hb hpb hmb hrd hmap hn F hc2 hlo hsm (by omega) (by omega) hx c
    have hlen : (effO C C[i]).toList.length ≤ 1 := by cases effO C C[i] <;> simp
    obtain ⟨sl3, q1, q2⟩ := merge1_ok h7n h9n h13n hb hpb hmb hrd hmap hn F hc2 hlo hsm hC π (seen ++ [i]) (fs ++ (effO C C[i]).toList) sl2 r3 (by rw [List.length_append]; omega) fun j hj => hlt j (by simp [hj])
    refine ⟨sl3, ?_, ?_⟩
    · simp only [mrounds]
      rw [r1, Option.bind_some]
      simp only
      rw [r2, cond_true, q1]
    · simp only [List.append_assoc, List.singleton_append] at q2
      rw [List.filterMap_cons, hx]
      simp only [Option.bind_some]
      cases h : effO C C[i] with
      | none => rw [h] at q2; simpa using q2
      | some g => rw [h] at q2; simpa using q2
structure M3 (slN sl : List Slot) (b mid n : Nat) (s1 s3 s4 : SV) (seen : List Nat) (ks : List Ky) : Prop where
  old : ∀ j, j < slN.length → j ≠ b → sl[j]? = slN[j]?
  it : sl[slN.length]? = some (.miter mid n seen)
  out : ∃ s2 o2, sl[b]? = some (cOut s1 s3 s2 s4) ∧ Acc sl KC ks s2 o2 ∧ ∀ j, o2 = some j → slN.length < j
  len : slN.length < sl.length
theorem M3.more {slN sl : List Slot} {b mid n : Nat} {s1 s3 s4 : SV} {seen : List Nat} {ks : List Ky} (c : M3 slN sl b mid n s1 s3 s4 seen ks) (hb : b < slN.length) (t : List Slot) : M3 slN (sl ++ t) b mid n s1 s3 s4 seen ks := by
  obtain ⟨old, it, ⟨s2, o2, out, acc, ho⟩, len⟩ := c
  exact ⟨fun j hj h1 => by rw [get_app (by omega)]; exact old j hj h1, by rw [get_app len]; exact it, ⟨s2, o2, by rw [get_app (by omega)]; exact out, acc.more, ho⟩, by rw [List.length_append]; omega⟩
theorem M3.app {slN sl : List Slot} {b mid n : Nat} {s1 s3 s4 : SV} {seen : List Nat} {ks : List Ky} (c : M3 slN sl b mid n s1 s3 s4 seen ks) (hb : b < slN.length) (hn : ks.length ≤ 2 ^ 20) (k : Ky) :
    ∃ s2 sA s' sl5, rdT (.leaf .slice) (hL sl) (.hp b 4 2) = some s2 ∧ appendS (hL sl) none 3 24 s2 [.int .i64 k.1, .int .i64 k.2.1, .int .i64 k.2.2] 1 = some (s', hL sA) ∧ H.wrs (hL sA) (.hp b 4 2) [.slice s'.a s'.len s'.cap s'.tail] = some (hL sl5) ∧ M3 slN sl5 b mid n s1 s3 s4 seen (ks ++ [k]) := by
  obtain ⟨old, it, ⟨s2, o2, out, acc, ho⟩, len⟩ := c
  obtain ⟨s', sA, id', k1, k2, k3, k4, k5⟩ := acc.append (w := 3) (b := 24) (x := k) (vs := LT.lo true KC k) rfl (by decide) (by omega) (by decide) rfl
  have outA : sA[b]? = some (cOut s1 s3 s2 s4) := by rw [k5 b (fun e => by have := ho b e; omega) (by omega)]; exact out
  have hid : slN.length < id' := by
    rcases k3 with k3 | ⟨_, k3⟩
    · exact ho _ k3
    · omega
  refine ⟨s2, sA, s', sA.set b (cOut s1 s3 s' s4), (rd_cOut out).2.1, k1, (wr_cOut outA s').2, ⟨fun j hj h1 => ?_, ?_, ⟨s', some id', ?_, ?_, fun j e => by cases e; exact hid⟩, by rw [List.length_set]; omega⟩⟩
  · rw [List.getElem?_set_ne (by omega), k5 j (fun e => by have := ho j e; omega) (by omega)]
    exact old j hj h1
  · rw [List.getElem?_set_ne (by omega), k5 _ (fun e => by have := ho _ e; omega) len]
    exact it
  · rw [List.getElem?_set_self (by omega)]
  · exact k2.frame fun j e => by
      cases e
      rw [List.getElem?_set_ne (by omega)]
theorem merge2_ok {h9 : H} {slN sl : List Slot} {b mid n id : Nat} {s1 s3 s4 : SV} {seen : List Nat} {ks : List Ky} {row : List Fct} (h9n : h9.next = b) (hb : b < slN.length) (hid : id < slN.length) (hidb : id ≠ b) (hrow : slN[id]? = some (.own (cellsL FC row) 6)) (hk : ks.length + row.length ≤ 2 ^ 20) (c : M3 slN sl b mid n s1 s3 s4 seen ks) :
    ∃ sl2, iter FUEL (arrival_Merge.loop2 h9 (ownSV id FC row.length)) (0, hL sl) = some (.ex0 (), hL sl2) ∧ M3 slN sl2 b mid n s1 s3 s4 seen (ks ++ row.map keyF) := by
  obtain ⟨q, hq, hp⟩ := iter_inv (f := arrival_Merge.loop2 h9 (ownSV id FC row.length)) (Inv := fun st => ∃ (i : Nat) (sl2 : List Slot), st = ((i : Int), hL sl2) ∧ i ≤ row.length ∧ M3 slN sl2 b mid n s1 s3 s4 seen (ks ++ (row.take i).map keyF))
    (Post := fun q => ∃ sl2, q = (.ex0 (), hL sl2) ∧ M3 slN sl2 b mid n s1 s3 s4 seen (ks ++ row.map keyF)) (fun st => row.length - st.1.toNat) (fun st hi => by
      obtain ⟨i, sl2, rfl, hil, c⟩ := hi
      have hlen : (((ownSV id FC row.length).len : Nat) : Int) = (row.length : Int) := rfl
      by_cases hlt : i < row.length
      · left
        have hx : row[i]? = some row[i] := List.getElem?_eq_getElem hlt
        have of := own_fact (sl := sl2) (by rw [c.old id hid hidb]; exact hrow) hx
        have cm := c.more hb [cFt true row[i]]
        obtain ⟨s2, sA, s', sl5, e1, e2, e3, c5⟩ := cm.app hb (by rw [List.length_append, List.length_map, List.length_take]; omega) (keyF row[i])
        refine ⟨(((i + 1 : Nat) : Int), hL sl5), ?_, ⟨i + 1, sl5, rfl, by omega, by rw [take_snoc hx, List.map_append, ← List.append_assoc]; exact c5⟩, by simp only [Int.toNat_natCast]; omega⟩
        unfold arrival_Merge.loop2
        try simp -implicitDefEqProofs only [Int.toNat_natCast]
        rw [hlen, decide_eq_true (by omega), cond_true, guardO_pos (by omega), of]
        try simp -implicitDefEqProofs only [Option.bind_some, hL_new, hL_next, low, rowSV_len, rowSV_cap, rowSV_tail, wr_fact, h9n, e1, rd_fact_key new_at, e2, e3]
        rw [i64_suc (by omega)]
      · right
        have : i = row.length := by omega
        subst this
        refine ⟨(.ex0 (), hL sl2), ?_, sl2, rfl, by rw [List.take_length] at c; exact c⟩
        unfold arrival_Merge.loop2
        try simp -implicitDefEqProofs only []
        rw [hlen, decide_eq_false (by omega), cond_false]) FUEL (0, hL sl) ⟨0, sl, rfl, Nat.zero_le _, by simpa using c⟩ (fuel_gt (by simp only [Int.toNat_zero]; omega))
  obtain ⟨sl2, rfl, h⟩ := hp
  exact ⟨sl2, hq, h⟩
def rowAt {α β : Type} (g : α → List β) (C : List α) (i : Nat) : List β := match C[i]? with | some e => g e | none => []
def idleE (C : List Fct) (e : FamR) : List Ky := if (C.find? fun g => decide (keyF g = e.1)).isSome = true then [] else e.2.2.map keyF
theorem merge3_round {h7 h9 h66 : H} {slN sl : List Slot} {p b cm mid n lo i : Nat} {s1 s3 s4 s3' s4' : SV} {seen : List Nat} {ks : List Ky} {C : List Fct} {E : FamE} {e : FamR} {f : Ky → List Fct} (h7n : h7.next = p) (h9n : h9.next = b) (h66n : h66.next = slN.length) (hb : b < slN.length) (hpb : p ≠ b) (hmb : mid ≠ b) (hcb : cm ≠ b)
    (hrd : slN[p]? = some (cRd cm mid s3' s4')) (hmap : slN[cm]? = some (.gmap (upG KeyT FactT (cntM C)))) (F : Fam slN mid lo f E) (hn : E.length = n) (hlo : ∀ (i : Nat) (e : FamR), E[i]? = some e → e.2.1 ≠ b) (he : E[i]? = some e) (hk : ks.length + e.2.2.length ≤ 2 ^ 20)
    (c : M3 slN sl b mid n s1 s3 s4 seen ks) :
    ∃ sl2, arrival_Merge.loop3 h7 h9 h66 ((), (hL sl).put slN.length (.miter mid n (seen ++ [i]))) = some (.more ((), hL sl2)) ∧ rangeOK ((hL sl).put slN.length (.miter mid n (seen ++ [i]))) (hL sl2) slN.length mid n (seen ++ [i]) = true ∧ M3 slN sl2 b mid n s1 s3 s4 (seen ++ [i]) (ks ++ idleE C e) := by
  have hml := (List.getElem?_eq_some_iff.1 F.map).1
  have hcl := (List.getElem?_eq_some_iff.1 hmap).1
  have hpl := (List.getElem?_eq_some_iff.1 hrd).1
  have hlen := c.len
  obtain ⟨sB, hB⟩ : ∃ sB, sB = sl.set slN.length (.miter mid n (seen ++ [i])) := ⟨_, rfl⟩
  have cB : M3 slN sB b mid n s1 s3 s4 (seen ++ [i]) ks := by
    obtain ⟨old, it, ⟨s2, o2, out, acc, ho⟩, len⟩ := c
    have g : ∀ j, j ≠ slN.length → sB[j]? = sl[j]? := fun j hj => by rw [hB, List.getElem?_set_ne (by omega)]
    exact ⟨fun j hj h1 => by rw [g j (by omega)]; exact old j hj h1, by rw [hB, List.getElem?_set_self len], ⟨s2, o2, by rw [g b (by omega)]; exact out, acc.frame fun j e => g j (by have := ho j e; omega), ho⟩, by rw [hB, List.length_set]; exact len⟩
  rw [hL_put hlen, ← hB]
  have hlenB := cB.len
  have hrange : ∀ {sl2 ks2}, M3 slN sl2 b mid n s1 s3 s4 (seen ++ [i]) ks2 → rangeOK (hL sB) (hL sl2) slN.length mid n (seen ++ [i]) = true := fun c2 => by
    simp only [rangeOK, hL_m, cB.old mid hml hmb, c2.old mid hml hmb, F.map, c2.it, Option.getD_some, V.beqs_refl, decide_true, Bool.and_self]
  have hcur : curG (hL sB) (.hp h66.next 0 0 : V) KeyT SlT = some (e.1, ownSV e.2.1 FC e.2.2.length) := by
    simp only [curG, h66n, hL_m, cB.it, Option.getD_some, List.getLast?_append, List.getLast?_singleton, Option.or_some, Option.some_or, Option.bind_some]
    have : (hL sB).gmap mid KeyT SlT = some (famE E) := gmap_rows (by rw [cB.old mid hml hmb]; exact F.map)
    rw [this, Option.bind_some, guardO_pos (by unfold famE; rw [List.length_map]; exact hn)]
    unfold famE
    rw [List.getElem?_map, he]
    rfl
  have c1 := cB.more hb [cKy e.1]
  have q1 : rdT (.leaf .map) (hL (sB ++ [cKy e.1])) (.hp h7.next 4 0) = some (some cm) := by
    rw [h7n]; exact (rd_cRd (by rw [c1.old p hpl hpb]; exact hrd)).1
  have look := cnt_look (sl := sB ++ [cKy e.1]) (m := cm) (L := C) (by rw [c1.old cm hcl hcb]; exact hmap) (0, 0, 0, 0, ⟨.nil, 0, 0, false⟩, ⟨.nil, 0, 0, false⟩) e.1
  cases hf : C.find? fun g => decide (keyF g = e.1) with
  | some g =>
    rw [hf] at look
    have c2 := c1.more hb [cFt true g]
    refine ⟨_, ?_, hrange c2, by rw [idleE, hf, if_pos (show (some g).isSome = true from rfl), List.append_nil]; exact c2⟩
    unfold arrival_Merge.loop3
    simp only
    rw [hcur]
    try simp -implicitDefEqProofs only [Option.bind_some, hL_new, hL_next, wr_key, q1, rd_key_all new_at, look, low, rowSV_len, rowSV_cap, rowSV_tail, wr_fact, cond_true]
  | none =>
    rw [hf] at look
    have c2 := c1.more hb [.own zF 6]
    obtain ⟨_, _, hcell⟩ := F.cells i e he
    obtain ⟨sl2, r1, r2⟩ := merge2_ok h9n hb (F.lt he) (hlo i e he) hcell hk c2
    refine ⟨sl2, ?_, hrange r2, by rw [idleE, hf, if_neg (by simp)]; exact r2⟩
    unfold arrival_Merge.loop3
    simp only
    rw [hcur]
    try simp -implicitDefEqProofs only [Option.bind_some, hL_new, hL_next, wr_key, q1, rd_key_all new_at, look, zero_fact, cond_false]
    rw [r1]
    try simp -implicitDefEqProofs only [Option.bind_some]
theorem merge3_ok {h7 h9 h66 : H} {slN : List Slot} {p b cm mid n lo : Nat} {s1 s3 s4 s3' s4' : SV} {C : List Fct} {E : FamE} {f : Ky → List Fct} (h7n : h7.next = p) (h9n : h9.next = b) (h66n : h66.next = slN.length) (hb : b < slN.length) (hpb : p ≠ b) (hmb : mid ≠ b) (hcb : cm ≠ b)
    (hrd : slN[p]? = some (cRd cm mid s3' s4')) (hmap : slN[cm]? = some (.gmap (upG KeyT FactT (cntM C)))) (F : Fam slN mid lo f E) (hn : E.length = n) (hlo : ∀ (i : Nat) (e : FamR), E[i]? = some e → e.2.1 ≠ b) (hrow : ∀ (i : Nat) (e : FamR), E[i]? = some e → e.2.2.length ≤ 2 ^ 9) :
    ∀ (π seen : List Nat) (ks : List Ky) (sl : List Slot), M3 slN sl b mid n s1 s3 s4 seen ks → ks.length + 2 ^ 9 * π.length ≤ 2 ^ 19 → (∀ i ∈ π, i < n) →
    ∃ sl2, mrounds slN.length mid n (arrival_Merge.loop3 h7 h9 h66) arrival_Merge.loop3e seen π ((), hL sl) = some (.ex0 (), hL sl2) ∧ M3 slN sl2 b mid n s1 s3 s4 (seen ++ π) (ks ++ π.flatMap (rowAt (idleE C) E))
  | [], seen, ks, sl, c, _, _ => ⟨sl, by simp [mrounds, arrival_Merge.loop3e], by simpa using c⟩
  | i :: π, seen, ks, sl, c, hk, hlt => by
    have hi : i < E.length := by rw [hn]; exact hlt i (by simp)
    have hx : E[i]? = some E[i] := List.getElem?_eq_getElem hi
    simp only [List.length_cons] at hk
    have hr := hrow i _ hx
    obtain ⟨sl2, r1, r2, r3⟩ := merge3_round h7n h9n h66n hb hpb hmb hcb hrd hmap F hn hlo hx (by omega) c
    have hlen : (idleE C E[i]).length ≤ 2 ^ 9 := by
      unfold idleE
      split
      · simp
      · rw [List.length_map]; exact hr
    obtain ⟨sl3, q1, q2⟩ := merge3_ok h7n h9n h66n hb hpb hmb hcb hrd hmap F hn hlo hrow π (seen ++ [i]) (ks ++ idleE C E[i]) sl2 r3 (by rw [List.length_append]; omega) fun j hj => hlt j (by simp [hj])
    refine ⟨sl3, ?_, ?_⟩
    · simp only [mrounds]
      rw [r1, Option.bind_some]
      simp only
      rw [r2, cond_true, q1]
    · simp only [List.append_assoc, List.singleton_append] at q2
      rw [List.flatMap_cons, rowAt, hx]
      exact q2
theorem TO.lt_of {α : Type} {c : α → α → Int} (t : TO c) {x y : α} (h : c x y ≤ 0) (hne : x ≠ y) : c x y < 0 := by
  rcases Int.lt_or_eq_of_le h with h | h
  · exact h
  · exact absurd (t.zero _ _ h) hne
theorem compG_sorted : ∀ (l : List Fct) (p : Fct), (p :: l).Pairwise (fun a b => cmpF a b ≤ 0) → (p :: compG p l).Pairwise fun a b => cmpF a b < 0
  | [], p, _ => by simp [compG]
  | y :: l, p, h => by
    obtain ⟨h1, h2⟩ := List.pairwise_cons.1 h
    simp only [compG]
    split
    · rename_i e
      have hy := cmpF_to.zero _ _ e
      subst hy
      exact compG_sorted l y h2
    · rename_i e
      have hpy : cmpF p y < 0 := cmpF_to.lt_of (h1 y (by simp)) fun e2 => e (by rw [e2]; exact cmpF_to.refl _)
      have ih := compG_sorted l y h2
      refine List.pairwise_cons.2 ⟨fun z hz => ?_, ih⟩
      rcases List.mem_cons.1 hz with rfl | hz
      · exact hpy
      · exact cmpF_to.trans _ _ _ hpy ((List.pairwise_cons.1 ih).1 z hz)
theorem onceF_sorted (l : List Fct) : (onceF l).Pairwise fun a b => cmpF a b < 0 := by
  have h : (sortF l).Pairwise fun a b => cmpF a b ≤ 0 := sortB_le cmpF_to
  unfold onceF
  cases hs : sortF l with
  | nil => exact List.Pairwise.nil
  | cons x t => rw [hs] at h; exact compG_sorted t x h
theorem strict_perm {l l' : List Fct} (h1 : l.Pairwise fun a b => cmpF a b < 0) (h2 : l'.Pairwise fun a b => cmpF a b < 0) (h : ∀ f, f ∈ l ↔ f ∈ l') : l = l' := by
  have nd : ∀ {l : List Fct}, (l.Pairwise fun a b => cmpF a b < 0) → l.Nodup := fun h => h.imp fun hlt e => by rw [e, cmpF_to.refl] at hlt; omega
  exact sorted_unique cmpF_to.ord ((List.perm_ext_iff_of_nodup (nd h1) (nd h2)).2 h) h1 h2
theorem strict_permK {l l' : List Ky} (h1 : l.Pairwise fun a b => cmpK a b < 0) (h2 : l'.Pairwise fun a b => cmpK a b < 0) (h : ∀ f, f ∈ l ↔ f ∈ l') : l = l' := by
  have nd : ∀ {l : List Ky}, (l.Pairwise fun a b => cmpK a b < 0) → l.Nodup := fun h => h.imp fun hlt e => by rw [e, cmpK_to.refl] at hlt; omega
  exact sorted_unique cmpK_to.ord ((List.perm_ext_iff_of_nodup (nd h1) (nd h2)).2 h) h1 h2
theorem onceF_same {l l' : List Fct} (h : ∀ f, f ∈ l ↔ f ∈ l') : onceF l = onceF l' :=
  strict_perm (onceF_sorted l) (onceF_sorted l') fun f => by rw [onceF_mem, onceF_mem, h]
theorem cmpF_key {a b : Fct} (h : cmpK (keyF a) (keyF b) < 0) : cmpF a b < 0 := by
  unfold cmpF orI
  rw [if_pos (by omega)]
  exact h
theorem key_le {a b : Fct} (h : cmpF a b < 0) : cmpK (keyF a) (keyF b) ≤ 0 := by
  unfold cmpF orI at h
  by_cases e : cmpK (keyF a) (keyF b) = 0
  · omega
  · rw [if_pos e] at h; omega
abbrev ByKey (l : List Fct) : Prop := l.Pairwise fun a b => cmpK (keyF a) (keyF b) < 0
theorem ByKey.strict {l : List Fct} (h : ByKey l) : l.Pairwise fun a b => cmpF a b < 0 := h.imp cmpF_key
theorem ByKey.inj {l : List Fct} (h : ByKey l) {a b : Fct} (ha : a ∈ l) (hb : b ∈ l) (e : keyF a = keyF b) : a = b := by
  induction l with
  | nil => simp at ha
  | cons x l ih =>
    obtain ⟨h1, h2⟩ := List.pairwise_cons.1 h
    rcases List.mem_cons.1 ha with ha1 | ha1 <;> rcases List.mem_cons.1 hb with hb1 | hb1
    · rw [ha1, hb1]
    · have := h1 b hb1; rw [← ha1, e, cmpK_to.refl] at this; omega
    · have := h1 a ha1; rw [← hb1, e, cmpK_to.refl] at this; omega
    · exact ih h2 ha1 hb1
theorem cntK_sorted {r : List Fct} : ∀ {ks : List Ky}, (ks.Pairwise fun a b => cmpK a b < 0) → ByKey (cntK r ks) := fun {ks} h => by
  unfold cntK ByKey
  rw [List.pairwise_filterMap]
  refine h.imp fun {a b} hab x hx y hy => ?_
  have key : ∀ {k : Ky} {x : Fct}, (if 1 < (grp r k).length then none else (grp r k).head?) = some x → keyF x = k := fun {k x} hx => by
    split at hx
    · cases hx
    · simpa using (List.mem_filter.1 (List.mem_of_mem_head? hx)).2
  rw [key hx, key hy]
  exact hab
theorem cntF_sorted (r : List Fct) : ByKey (cntF r) := cntK_sorted (ksF_sorted r)
theorem cntF_mem {r : List Fct} {f : Fct} : f ∈ cntF r ↔ f ∈ r ∧ grp r (keyF f) = [f] := by
  constructor
  · intro h
    obtain ⟨_, h2, h3⟩ := cntK_key h
    exact ⟨h2, h3⟩
  · rintro ⟨h1, h2⟩
    exact List.mem_filterMap.2 ⟨keyF f, (ksF_mem _ _).2 (by rw [h2]; simp), by rw [h2]; rfl⟩
theorem onceF_nodup (l : List Fct) : (onceF l).Nodup := (onceF_sorted l).imp fun hlt e => by rw [e, cmpF_to.refl] at hlt; omega
theorem conF_mem {r : List Fct} {k : Ky} : k ∈ conF r ↔ 1 < (grp r k).length := by
  unfold conF conK
  rw [List.mem_filter, ksF_mem, decide_eq_true_eq]
  exact ⟨fun h => h.2, fun h => ⟨fun e => by rw [e] at h; simp at h, h⟩⟩
def factsF (C : List Fct) : List Fct := C.filterMap (effO C)
def idleF (C : List Fct) : List Ky := (C.filter fun c => corrects c && !refF C c && !(C.find? fun g => decide (keyF g = keyF (targetF c).1)).isSome).map keyF
theorem effF_key {C : List Fct} {f g : Fct} (h : effF C f = some g) : keyF g = keyF f := by
  unfold effF at h
  split at h
  · cases h; rfl
  · rename_i c hc
    split at h
    · cases h
      have := corF_mem (List.mem_of_getLast? hc)
      exact this.2.2.2
    · cases h
theorem effO_key {C : List Fct} {f g : Fct} (h : effO C f = some g) : keyF g = keyF f := by
  unfold effO at h
  split at h
  · cases h
  · exact effF_key h
theorem factsF_sorted {C : List Fct} (h : ByKey C) : ByKey (factsF C) := by
  unfold factsF ByKey
  rw [List.pairwise_filterMap]
  refine h.imp fun {a b} hab x hx y hy => ?_
  rw [effO_key hx, effO_key hy]
  exact hab
theorem map_key_sorted {l : List Fct} (h : ByKey l) : (l.map keyF).Pairwise fun a b => cmpK a b < 0 := by
  rw [List.pairwise_map]; exact h
theorem idleF_sorted {C : List Fct} (h : ByKey C) : (idleF C).Pairwise fun a b => cmpK a b < 0 := map_key_sorted (h.filter _)
def meansF (r : List Fct) : List Fct × List Ky × List Ky × List Ky := (factsF (cntF r), conF r, idleF (cntF r), rfsF (cntF r) (cntF r))
def mergeF (l : List Fct) : (List Fct × List Ky × List Ky × List Ky) × Int := if checkL l = 0 then (meansF (onceF l), 0) else (([], [], [], []), checkL l)
theorem facts_range {C : List Fct} (h : ByKey C) {π : List Nat} (hπ : π.Perm (List.range C.length)) : (π.filterMap fun i => (C[i]?).bind (effO C)).Pairwise (fun a b => cmpF a b ≠ 0) ∧ sortB cmpF (π.filterMap fun i => (C[i]?).bind (effO C)) = factsF C := by
  have hr : (List.range C.length).filterMap (fun i => (C[i]?).bind (effO C)) = factsF C := by
    have : ∀ (g : Fct → Option Fct) (C : List Fct), (List.range C.length).filterMap (fun i => (C[i]?).bind g) = C.filterMap g := fun g C => by
      induction C with
      | nil => rfl
      | cons a l ih =>
        rw [List.length_cons, List.range_succ_eq_map, List.filterMap_cons]
        simp only [List.getElem?_cons_zero, Option.bind_some, List.filterMap_map, List.filterMap_cons]
        have e : (fun i => ((a :: l)[i]?).bind g) ∘ Nat.succ = fun i => (l[i]?).bind g := rfl
        rw [e, ih]
    exact this _ _
  have hp : (π.filterMap fun i => (C[i]?).bind (effO C)).Perm (factsF C) := by rw [← hr]; exact hπ.filterMap _
  have hs := (factsF_sorted h).strict
  have hne : (π.filterMap fun i => (C[i]?).bind (effO C)).Pairwise (fun a b => cmpF a b ≠ 0) :=
    (hp.pairwise_iff fun {a b} h e => h (cmpF_to.ord.zero e)).2 (hs.imp fun h => by omega)
  exact ⟨hne, sorted_unique cmpF_to.ord (sortB_perm.trans hp) (sortB_sorted cmpF_to.ord hne) hs⟩
theorem flat_range {α β : Type} (g : α → List β) : ∀ (C : List α), (List.range C.length).flatMap (rowAt g C) = C.flatMap g
  | [] => rfl
  | a :: l => by
    rw [List.length_cons, List.range_succ_eq_map, List.flatMap_cons, List.flatMap_map, List.flatMap_cons]
    rw [← flat_range g l]
    rfl
theorem idle_range {sl : List Slot} {mid lo : Nat} {C : List Fct} {E : FamE} (h : ByKey C) (F : Fam sl mid lo (corF C C) E) {π : List Nat} (hπ : π.Perm (List.range E.length)) :
    (π.flatMap (rowAt (idleE C) E)).Pairwise (fun a b => cmpK a b ≠ 0) ∧ sortB cmpK (π.flatMap (rowAt (idleE C) E)) = idleF C := by
  have hp : (π.flatMap (rowAt (idleE C) E)).Perm (E.flatMap (idleE C)) := by rw [← flat_range (idleE C) E]; exact hπ.flatMap_right _
  have hmem : ∀ {e : FamR}, e ∈ E → ∀ k, k ∈ idleE C e ↔ ∃ c ∈ C, corrects c = true ∧ refF C c = false ∧ keyF (targetF c).1 = e.1 ∧ (C.find? fun g => decide (keyF g = keyF (targetF c).1)).isSome = false ∧ keyF c = k := fun {e} he k => by
    obtain ⟨i, hi⟩ := List.mem_iff_getElem?.1 he
    have hfit := F.fits i e hi
    unfold idleE
    by_cases hs : (C.find? fun g => decide (keyF g = e.1)).isSome = true
    · rw [if_pos hs]
      constructor
      · intro hk; simp at hk
      · rintro ⟨c, _, _, _, h4, h5, _⟩
        rw [h4, hs] at h5; cases h5
    · rw [if_neg hs, List.mem_map, hfit]
      constructor
      · rintro ⟨c, hc, rfl⟩
        obtain ⟨c1, c2, c3, c4⟩ := corF_mem hc
        exact ⟨c, c1, c2, c3, c4, by rw [c4]; simpa using hs, rfl⟩
      · rintro ⟨c, c1, c2, c3, c4, _, rfl⟩
        exact ⟨c, List.mem_filter.2 ⟨c1, by simp [c2, c3, c4]⟩, rfl⟩
  have hne : (E.flatMap (idleE C)).Pairwise fun a b => cmpK a b ≠ 0 := by
    rw [List.pairwise_flatMap]
    refine ⟨fun e he => ?_, ?_⟩
    · obtain ⟨i, hi⟩ := List.mem_iff_getElem?.1 he
      unfold idleE
      split
      · exact List.Pairwise.nil
      · rw [F.fits i e hi]
        exact (map_key_sorted (h.filter _)).imp fun h => by omega
    · have := F.nodup
      rw [List.pairwise_map] at this
      refine List.Pairwise.imp_of_mem (fun {a b} ha hb hab x hx y hy e => ?_) this
      obtain ⟨c, c1, c2, c3, c4, c5, rfl⟩ := (hmem ha x).1 hx
      obtain ⟨d, d1, d2, d3, d4, d5, rfl⟩ := (hmem hb y).1 hy
      have := h.inj c1 d1 (cmpK_to.zero _ _ e)
      subst this
      exact hab (by rw [← c4, d4]; exact cmpK_to.refl _)
  have hne' : (π.flatMap (rowAt (idleE C) E)).Pairwise (fun a b => cmpK a b ≠ 0) := (hp.pairwise_iff fun {a b} h e => h (cmpK_to.ord.zero e)).2 hne
  refine ⟨hne', strict_permK (sortB_sorted cmpK_to.ord hne') (idleF_sorted h) fun k => ?_⟩
  rw [sortB_perm.mem_iff, hp.mem_iff, List.mem_flatMap]
  constructor
  · rintro ⟨e, he, hk⟩
    obtain ⟨c, c1, c2, c3, c4, c5, rfl⟩ := (hmem he k).1 hk
    exact List.mem_map.2 ⟨c, List.mem_filter.2 ⟨c1, by simp only [c2, c3, c5, Bool.not_false, Bool.and_self]⟩, rfl⟩
  · intro hk
    obtain ⟨c, hc, rfl⟩ := List.mem_map.1 hk
    obtain ⟨c1, c2⟩ := List.mem_filter.1 hc
    simp only [Bool.and_eq_true, Bool.not_eq_true'] at c2
    obtain ⟨⟨c2, c3⟩, c4⟩ := c2
    have hcor : corF C C (keyF (targetF c).1) ≠ [] := fun e => by
      have : c ∈ corF C C (keyF (targetF c).1) := List.mem_filter.2 ⟨c1, by simp [c2, c3]⟩
      rw [e] at this; simp at this
    obtain ⟨i, e, hi, he⟩ := F.all _ hcor
    exact ⟨e, List.mem_of_getElem? hi, (hmem (List.mem_of_getElem? hi) _).2 ⟨c, c1, c2, c3, he.symm, c4, rfl⟩⟩
theorem check_small {x : Fct} (h : checkF x = 0) : smallF x := by
  unfold checkF at h
  split at h
  · cases h
  · rename_i hc
    simp only [Bool.or_eq_true, decide_eq_true_eq, not_or] at hc
    unfold smallF
    omega
theorem checkL_zero {l : List Fct} (h : checkL l = 0) : l.length ≤ 1024 ∧ ∀ x ∈ l, checkF x = 0 := by
  unfold checkL at h
  split at h
  · cases h
  · split at h
    · cases h
    · rename_i h1 h2
      refine ⟨by omega, fun x hx => ?_⟩
      rw [Bool.not_eq_true, List.any_eq_false] at h2
      have := h2 x hx
      simpa using this
theorem checkL_small {l : List Fct} (h : checkL l = 0) : ∀ x ∈ l, smallF x := fun x hx => check_small ((checkL_zero h).2 x hx)
theorem getD_len {α : Type} (l : List α) (k : Nat) : (l.drop k).length ≤ l.length := by rw [List.length_drop]; omega
theorem out_small {c : Fct} (h : smallF c) : smallF (outF c) := by
  obtain ⟨h1, h2⟩ := h
  unfold smallF outF
  split
  · exact ⟨by simp, by simp⟩
  · exact ⟨by have := getD_len c.2.2.2.2.1 4; simp only; omega, h2⟩
theorem target_small {c : Fct} (h : smallF c) : smallF (targetF c).1 := by
  unfold targetF
  split
  · exact out_small h
  · exact ⟨by simp [zeroF], by simp [zeroF]⟩
theorem effO_small {C : List Fct} (hC : ∀ f ∈ C, smallF f) {f g : Fct} (hf : f ∈ C) (h : effO C f = some g) : smallF g := by
  unfold effO at h
  split at h
  · cases h
  · unfold effF at h
    split at h
    · cases h; exact hC _ hf
    · rename_i c hc
      split at h
      · cases h
        exact target_small (hC c (corF_mem (List.mem_of_getLast? hc)).1)
      · cases h
abbrev n4 : Slot := .own [.slice .nil 0 0 false, .slice .nil 0 0 false, .slice .nil 0 0 false, .slice .nil 0 0 false] 4
theorem res4 {h : H} {s1 s3 s2 s4 : SV} {e : Int} {fs : List Fct} {k3 k2 k4 : List Ky} (h1 : rdRow false h FC s1 = some fs) (h3 : rdRow false h KC s3 = some k3) (h2 : rdRow false h KC s2 = some k2) (h4 : rdRow false h KC s4 = some k4) :
    rdRes false h (.many [.agg [.row FC, .row KC, .row KC, .row KC], .leaf (.int .i64)]) (Res.un (.many [.agg [.slice, .slice, .slice, .slice], .leaf (.int .i64)]) ((s1, s3, s2, s4), e)) = some ((fs, k3, k2, k4), e) := by
  have g1 : rdRow false h FC ⟨s1.a, s1.len, s1.cap, s1.tail⟩ = some fs := h1
  have g3 : rdRow false h KC ⟨s3.a, s3.len, s3.cap, s3.tail⟩ = some k3 := h3
  have g2 : rdRow false h KC ⟨s2.a, s2.len, s2.cap, s2.tail⟩ = some k2 := h2
  have g4 : rdRow false h KC ⟨s4.a, s4.len, s4.cap, s4.tail⟩ = some k4 := h4
  try simp -implicitDefEqProofs only [evs, reduceIte, rdRes, rdTT, rdTy, rdLT, Res.un, TT.un, Ty.un, LT.un, Leaf.un, Leaf.plain, LT.plain, g1, g2, g3, g4]
theorem row_facts {f : Bool} {h : H} {l : List Fct} : rdRow true h FC (rowSV f FC l) = some l := rdRow_args rfl
theorem wr_n4 {sl : List Slot} {i : Nat} {cs : List V} {a b c d : SV} (h : sl[i]? = some (.own cs 4)) (hc : cs.length = 4) : H.wrs (hL sl) (.hp i 4 0) [.slice a.a a.len a.cap a.tail, .slice b.a b.len b.cap b.tail, .slice c.a c.len c.cap c.tail, .slice d.a d.len d.cap d.tail] = some (hL (sl.set i (cOut a b c d))) := wr_all h hc rfl
theorem Merge_err (l : List Fct) (he : checkL l ≠ 0) : arrival_MergeP l = some (([], [], [], []), checkL l) := by
  unfold arrival_MergeP arrival_Merge.K
  try simp -implicitDefEqProofs only [hL_empty, hL_new, hL_next, row_facts, Option.bind_some, checkP_ok, decide_eq_false he, Bool.not_false, cond_true]
  rfl
theorem iter_facts {slM : List Slot} {mid : Nat} {C : List Fct} (hmap : slM[mid]? = some (.gmap (upG KeyT FactT (cntM C)))) (hC : C.length ≤ 2 ^ 20) : iterAt (hL (slM ++ [.miter mid (cntM C).length []])) (.hp slM.length 0 0) = some (slM.length, mid, C.length) := by
  have hl : (cntM C).length = C.length := by unfold cntM; rw [List.length_map]
  simp only [iterAt, hL_m, new_at, Option.getD_some, get_app (List.getElem?_eq_some_iff.1 hmap).1, hmap]
  rw [guardO_pos ⟨by unfold upG; rw [List.length_map], by omega⟩, hl]
theorem iter_rows {slM : List Slot} {mid : Nat} {E : FamE} (hmap : slM[mid]? = some (.gmap (upG KeyT SlT (famE E)))) (hC : E.length ≤ 2 ^ 20) : iterAt (hL (slM ++ [.miter mid (famE E).length []])) (.hp slM.length 0 0) = some (slM.length, mid, E.length) := by
  have hl : (famE E).length = E.length := by unfold famE; rw [List.length_map]
  simp only [iterAt, hL_m, new_at, Option.getD_some, get_app (List.getElem?_eq_some_iff.1 hmap).1, hmap]
  rw [guardO_pos ⟨by unfold upG; rw [List.length_map], by omega⟩, hl]
theorem sub_len {a b : List Ky} (hn : a.Nodup) (hs : a ⊆ b) : a.length ≤ b.length := by
  have hp : a.Perm ((dedK b).filter fun k => decide (k ∈ a)) := (List.perm_ext_iff_of_nodup hn ((dedK_nodup b).filter _)).2 fun k => by
    rw [List.mem_filter, dedK_mem, decide_eq_true_eq]
    exact ⟨fun h => ⟨hs h, h⟩, fun h => h.2⟩
  rw [hp.length_eq]
  exact Nat.le_trans (List.length_filter_le _ _) (dedK_len b)
theorem Merge_ok (l : List Fct) (hl : checkL l = 0 → l.length ≤ 19) : arrival_MergeP l = some (mergeF l) := by
  by_cases he : checkL l = 0
  case neg =>
    rw [Merge_err l he, mergeF, if_neg he]
  rw [mergeF, if_pos he]
  have hl19 := hl he
  have hsm := checkL_small he
  obtain ⟨r, hr⟩ : ∃ r, r = onceF l := ⟨_, rfl⟩
  obtain ⟨C, hC⟩ : ∃ C, C = cntF r := ⟨_, rfl⟩
  have hrl : r.length ≤ 19 := by have := onceF_len l; rw [hr]; omega
  have hCs : ByKey C := by rw [hC]; exact cntF_sorted r
  have hCr : ∀ f ∈ C, f ∈ r := fun f hf => by rw [hC] at hf; exact (cntF_mem.1 hf).1
  have hCl : C.length ≤ 19 := by
    have h1 : C.length ≤ (ksF r).length := by rw [hC]; exact List.length_filterMap_le _ _
    have h2 := ksF_len r
    omega
  have hCm : ∀ f ∈ C, smallF f := fun f hf => hsm f (by have := hCr f hf; rw [hr] at this; exact onceF_mem.1 this)
  obtain ⟨slR, s3, s4, p1, R⟩ := read_ok hl19 hsm (a0 := rowSV false FC l) (fun h => row_facts) [n4]
  rw [← hr] at R
  obtain ⟨Rlen, Rold, Rcnt, ⟨lo, E, hlo, F⟩, ⟨o3, Rcon⟩, ⟨o4, Rrfs⟩⟩ := R
  simp only [List.length_singleton, Nat.reduceAdd] at Rlen Rold Rcnt hlo F p1
  rw [← hC] at Rcnt F Rrfs
  obtain ⟨p, hp⟩ : ∃ p, p = slR.length := ⟨_, rfl⟩
  have hEl : E.length ≤ 19 := by
    have h1 : (E.map (·.1)).length ≤ (C.map fun c => keyF (targetF c).1).length := by
      have hnd : (E.map (·.1)).Nodup := nodup_cmp.2 F.nodup
      have hsub : (E.map (·.1)) ⊆ (C.map fun c => keyF (targetF c).1) := fun k hk => by
        obtain ⟨c, hc⟩ := List.exists_mem_of_ne_nil _ ((F.mem k).1 hk)
        obtain ⟨c1, _, _, c4⟩ := corF_mem hc
        exact List.mem_map.2 ⟨c, c1, c4⟩
      exact sub_len hnd hsub
    rw [List.length_map, List.length_map] at h1
    omega
  have hErow : ∀ (i : Nat) (e : FamR), E[i]? = some e → e.2.2.length ≤ 2 ^ 9 := fun i e hi => by
    rw [F.fits i e hi]
    have := len_filter (fun f => corrects f && !refF C f && decide (keyF (targetF f).1 = e.1)) C 19 hCl
    unfold corF
    omega
  -- before the first range
  obtain ⟨slM, hM⟩ : ∃ slM, slM = slR ++ [cRd 2 3 s3 s4] ++ [cOut nilSV s3 nilSV s4] := ⟨_, rfl⟩
  have lM : slM.length = p + 2 := by rw [hM, hp]; simp
  have Mold : ∀ j, j < p → slM[j]? = slR[j]? := fun j hj => by rw [hM, get_app (by rw [len_app1]; omega), get_app (by omega)]
  have Mp : slM[p]? = some (cRd 2 3 s3 s4) := by rw [hM, hp]; exact new_at1
  have Mb : slM[p + 1]? = some (cOut nilSV s3 nilSV s4) := by rw [hM, hp]; exact at_1
  have Mcnt : slM[2]? = some (.gmap (upG KeyT FactT (cntM C))) := by rw [Mold 2 (by omega)]; exact Rcnt
  have hidlt : ∀ (i : Nat) (e : FamR), E[i]? = some e → e.2.1 < p := fun i e hi => by rw [hp]; exact F.lt hi
  have FM : Fam slM 3 lo (corF C C) E := F.frame fun j hj => by
    rcases hj with rfl | ⟨a, e, ha, rfl⟩
    · exact Mold 3 (by omega)
    · exact Mold _ (hidlt a e ha)
  have M0 : M1 slM (slM ++ [.miter 2 (cntM C).length []]) (p + 1) 2 C.length s3 s4 [] [] := by
    refine ⟨fun j hj _ => get_app hj, ?_, ⟨nilSV, none, ?_, Acc.nil, fun j e => by cases e⟩, by rw [len_app1]; omega⟩
    · rw [new_at, show (cntM C).length = C.length by unfold cntM; rw [List.length_map]]
    · rw [get_app (by omega)]; exact Mb
  unfold arrival_MergeP arrival_Merge.K
  try simp -implicitDefEqProofs only [hL_empty, hL_new, hL_next, row_facts, Option.bind_some, checkP_ok, he, decide_true, Bool.not_true, cond_false, List.nil_append]
  rw [p1, Option.bind_some]
  simp only [hL_new, hL_next]
  rw [wr_new (g := 4) (e := 4) (cs := [.map none, .map none, .slice .nil 0 0 false, .slice .nil 0 0 false]) rfl rfl rfl, Option.bind_some]
  have fA := (rd_cRd (sl := slR ++ [cRd 2 3 s3 s4]) (id := slR.length) new_at).2.2.1
  have fB := (rd_cRd (sl := slR ++ [cRd 2 3 s3 s4]) (id := slR.length) new_at).2.2.2.1
  have fC : H.wrs (hL (slR ++ [cRd 2 3 s3 s4] ++ [n4])) (.hp (slR ++ [cRd 2 3 s3 s4]).length 4 0) [.slice .nil 0 0 false, .slice s3.a s3.len s3.cap s3.tail, .slice .nil 0 0 false, .slice s4.a s4.len s4.cap s4.tail] = some (hL slM) := by
    rw [hM]; exact wr_new (g := 4) (e := 4) (cs := [.slice .nil 0 0 false, .slice .nil 0 0 false, .slice .nil 0 0 false, .slice .nil 0 0 false]) rfl rfl rfl
  have q1 : rdT (.leaf .map) (hL slM) (.hp slR.length 4 0) = some (some 2) := (rd_cRd (by rw [← hp]; exact Mp)).1
  simp only [fA, fB, Option.bind_some, hL_new, hL_next, fC, q1, gmap_facts Mcnt, hL_newS, iter_facts Mcnt (show C.length ≤ 2 ^ 20 by omega)]
  refine agreeN_of fun π hπ => ?_
  obtain ⟨sl2, m1, m2⟩ := merge1_ok (h7 := hL slR) (h9 := hL (slR ++ [cRd 2 3 s3 s4])) (h13 := hL slM) (slM := slM) (p := p) (b := p + 1) (mid := 2) (n := C.length) (c2 := 3) (lo := lo) (s3 := s3) (s4 := s4) (s3' := s3) (s4' := s4) (C := C) (E := E) (by rw [hL_next, hp]) (by rw [hL_next, hp, len_app1]) rfl (by omega) (by omega) (by omega) Mp Mcnt rfl FM (by omega)
    (fun i e hi => by have := hidlt i e hi; omega) hCm (by omega) π [] [] _ M0 (by rw [hπ.length_eq, List.length_range]; simp; omega) (fun i hi => by simpa using hπ.mem_iff.1 hi)
  rw [List.nil_append, List.nil_append] at m2
  obtain ⟨fne, fsort⟩ := facts_range hCs hπ
  obtain ⟨fs, hfs⟩ : ∃ fs, fs = π.filterMap fun i => (C[i]?).bind (effO C) := ⟨_, rfl⟩
  rw [← hfs] at m2 fne fsort
  have hfsl : fs.length ≤ 19 := by
    have h1 : fs.length ≤ π.length := by rw [hfs]; exact List.length_filterMap_le _ _
    rw [hπ.length_eq, List.length_range] at h1
    omega
  have hfsm : ∀ x ∈ fs, okF x = true := fun x hx => by
    rw [hfs] at hx
    obtain ⟨i, hi, hx⟩ := List.mem_filterMap.1 hx
    obtain ⟨f, hf, hx⟩ := Option.bind_eq_some_iff.1 hx
    exact small_ok (effO_small hCm (List.mem_of_getElem? hf) hx)
  obtain ⟨M2old, M2it, ⟨s1, o1, M2out, acc1, ho1⟩, M2len⟩ := m2
  rw [m1]
  have q2 := (rd_cOut M2out).1
  obtain ⟨slN, e1, accN, lN, Nold⟩ := sortX_acc (g := 33) (c := cmpF) (okb := okF) rfl (by decide) acc1 (by omega) hfsm fne
  rw [fsort] at accN
  have e1' : sortFacts s1 (.func 33 []) (hL sl2) = some ((), hL slN) := e1
  have hbN : (hL (slR ++ [cRd 2 3 s3 s4])).next = p + 1 := by rw [hL_next, hp, len_app1]
  simp only [Option.bind_some, show (slR ++ [cRd 2 3 s3 s4]).length = p + 1 by rw [hp, len_app1], q2, e1']
  have hno1 : ∀ j, j ≤ p + 2 → o1 ≠ some j := fun j hj e => by have := ho1 j e; omega
  have Nj : ∀ j, j < p + 2 → j ≠ p + 1 → slN[j]? = slM[j]? := fun j hj h => by rw [Nold j (hno1 j (by omega)), M2old j (by omega) h]
  have Nb : slN[p + 1]? = some (cOut s1 s3 nilSV s4) := by rw [Nold _ (hno1 _ (by omega))]; exact M2out
  have FN : Fam slN 3 lo (corF C C) E := FM.frame fun j hj => by
    rcases hj with rfl | ⟨a, e, ha, rfl⟩
    · exact Nj 3 (by omega) (by omega)
    · have := hidlt a e ha; exact Nj _ (by omega) (by omega)
  have q3 : rdT (.leaf .map) (hL slN) (.hp slR.length 4 1) = some (some 3) := (rd_cRd (by rw [← hp, Nj p (by omega) (by omega)]; exact Mp)).2.1
  have hNl : p + 2 < slN.length := by omega
  have N0 : M3 slN (slN ++ [.miter 3 (famE E).length []]) (p + 1) 3 E.length s1 s3 s4 [] [] := by
    refine ⟨fun j hj _ => get_app hj, ?_, ⟨nilSV, none, ?_, Acc.nil, fun j e => by cases e⟩, by rw [len_app1]; omega⟩
    · rw [new_at, show (famE E).length = E.length by unfold famE; rw [List.length_map]]
    · rw [get_app (by omega)]; exact Nb
  simp only [q3, gmap_rows FN.map, Option.bind_some, hL_newS, hL_next, iter_rows FN.map (show E.length ≤ 2 ^ 20 by omega)]
  refine agreeN_of fun π' hπ' => ?_
  obtain ⟨sl4, n1, n2⟩ := merge3_ok (h7 := hL slR) (h9 := hL (slR ++ [cRd 2 3 s3 s4])) (h66 := hL slN) (slN := slN) (p := p) (b := p + 1) (cm := 2) (mid := 3) (n := E.length) (lo := lo) (s1 := s1) (s3 := s3) (s4 := s4) (s3' := s3) (s4' := s4) (C := C) (E := E) (f := corF C C) (by rw [hL_next, hp]) (by rw [hL_next, hp, len_app1]) rfl (by omega) (by omega) (by omega) (by omega)
    (by rw [Nj p (by omega) (by omega)]; exact Mp) (by rw [Nj 2 (by omega) (by omega)]; exact Mcnt) FN rfl (fun i e hi => by have := hidlt i e hi; omega) hErow π' [] [] _ N0 (by rw [hπ'.length_eq, List.length_range]; simp; omega) (fun i hi => by simpa using hπ'.mem_iff.1 hi)
  rw [List.nil_append, List.nil_append] at n2
  obtain ⟨kne, ksort⟩ := idle_range hCs FN hπ'
  obtain ⟨ks, hks⟩ : ∃ ks, ks = π'.flatMap (rowAt (idleE C) E) := ⟨_, rfl⟩
  rw [← hks] at n2 kne ksort
  have hksl : ks.length ≤ 19 := by
    have h1 : ks.length = (idleF C).length := by rw [← ksort, sortB_perm.length_eq]
    have h2 : (idleF C).length ≤ C.length := by unfold idleF; rw [List.length_map]; exact List.length_filter_le _ _
    omega
  obtain ⟨N2old, N2it, ⟨s2, o2, N2out, acc2, ho2⟩, N2len⟩ := n2
  rw [n1]
  obtain ⟨sl5, e2, acc5, l5, g5⟩ := sortX_acc (g := 58) (c := cmpK) (okb := fun _ => true) rfl (by decide) acc2 (by omega) (fun _ _ => rfl) kne
  rw [ksort] at acc5
  have e2' : sortKeys s2 (.func 58 []) (hL sl4) = some ((), hL sl5) := e2
  have hno2 : ∀ j, j < slN.length → o2 ≠ some j := fun j hj e => by have := ho2 j e; omega
  have out5 : sl5[p + 1]? = some (cOut s1 s3 s2 s4) := by rw [g5 _ (hno2 _ (by omega))]; exact N2out
  have old5 : ∀ j, j < slN.length → j ≠ p + 1 → sl5[j]? = slN[j]? := fun j hj h => by rw [g5 j (hno2 j hj), N2old j hj h]
  have zero5 : sl5[0]? = some n4 := by
    rw [old5 0 (by omega) (by omega), Nj 0 (by omega) (by omega), Mold 0 (by omega), Rold 0 (by simp)]
    rfl
  have q4 := (rd_cOut N2out).2.1
  have q5 := (rd_cOut out5).2.2
  have q6 : H.wrs (hL sl5) (.hp 0 4 0) [.slice s1.a s1.len s1.cap s1.tail, .slice s3.a s3.len s3.cap s3.tail, .slice s2.a s2.len s2.cap s2.tail, .slice s4.a s4.len s4.cap s4.tail] = some (hL (sl5.set 0 (cOut s1 s3 s2 s4))) := wr_n4 zero5 rfl
  have h5l : 0 < sl5.length := by omega
  have q7 := (rd_cOut (sl := sl5.set 0 (cOut s1 s3 s2 s4)) (id := 0) (List.getElem?_set_self h5l)).2.2
  have g6 : ∀ j, j ≠ 0 → (sl5.set 0 (cOut s1 s3 s2 s4))[j]? = sl5[j]? := fun j hj => by rw [List.getElem?_set_ne (by omega)]
  have A1 : Acc (sl5.set 0 (cOut s1 s3 s2 s4)) FC (factsF C) s1 o1 := accN.frame fun j e => by
    have h1 := ho1 j e
    subst e
    have h2 := accN.lt
    rw [g6 j (by omega), old5 j (by omega) (by omega)]
  have A2 : Acc (sl5.set 0 (cOut s1 s3 s2 s4)) KC (idleF C) s2 o2 := acc5.frame fun j e => by
    have h1 := ho2 j e
    rw [g6 j (by omega)]
  have keepR : ∀ {xs : List Ky} {s : SV} {o : Option Nat}, Acc slR KC xs s o → rdRow false (hL (sl5.set 0 (cOut s1 s3 s2 s4))) KC s = some xs := fun {xs s o} A => by
    by_cases h0 : o = some 0
    · obtain ⟨_, _, h3⟩ := (show Acc slR KC xs s (some 0) by rw [← h0]; exact A)
      rw [Rold 0 (by simp)] at h3
      simp at h3
    · refine Acc.read (lp := false) (A.frame fun j e => ?_) rfl
      have hj : j ≠ 0 := fun e2 => h0 (by rw [e, e2])
      subst e
      have := A.lt
      rw [g6 j hj, old5 j (by omega) (by omega), Nj j (by omega) (by omega), Mold j (by omega)]
  simp only [Option.bind_some, q4, e2', q5, List.length_nil, q6, q7]
  rw [res4 (A1.read rfl) (keepR Rcon) (A2.read rfl) (keepR Rrfs)]
  rw [hC, hr]
  rfl
theorem Number_ok (a b : Int) : r53_numberP a b = some (cmpI a b) := by
  unfold r53_numberP r53_number cmpI
  by_cases h : a < b
  · rw [decide_eq_true h, if_pos h]; rfl
  · rw [decide_eq_false h, if_neg h]
    by_cases k : b < a
    · rw [decide_eq_true k, if_pos k]; rfl
    · rw [decide_eq_false k, if_neg k]; rfl
theorem Text_ok (a b : ByteArray) : r53_textP a b = some (cmpT a b) := by
  unfold r53_textP r53_text cmpT
  cases h : Op.bytesLess a.toList b.toList
  · rw [if_neg (by simp)]
    by_cases k : a = b
    · rw [decide_eq_true k, if_pos k]; rfl
    · rw [decide_eq_false k, if_neg k]; rfl
  · rw [if_pos rfl]; rfl
theorem RKeys_ok (a b : Ky) : r53_KeysP a b = some (cmpK a b) := by
  obtain ⟨a0, a1, a2⟩ := a
  obtain ⟨b0, b1, b2⟩ := b
  unfold r53_KeysP r53_Keys cmpK orI
  try simp -implicitDefEqProofs only [evs, reduceIte, rdRes, rdTT, rdTy, rdLT, Res.un, TT.un, Ty.un, LT.un, Leaf.un, Leaf.plain, LT.plain, evh, List.replicate, splice, LT.pack, Leaf.pack, Nat.reduceAdd, Nat.reduceSub, Nat.reduceLeDiff, Nat.reduceLT, Nat.reduceEqDiff, LT.lo, Leaf.lo, Number_ok, Option.bind_some]
  by_cases h0 : cmpI a0 b0 = 0
  · simp -implicitDefEqProofs only [h0, eq_self, decide_true, decide_false, ne_eq, not_true_eq_false, not_false_eq_true, reduceIte, Bool.not_true, Bool.not_false, cond_true, cond_false, Bool.not_true, cond_false, evs, reduceIte, rdRes, rdTT, rdTy, rdLT, Res.un, TT.un, Ty.un, LT.un, Leaf.un, Leaf.plain, LT.plain, evh, List.replicate, splice, LT.pack, Leaf.pack, Nat.reduceAdd, Nat.reduceSub, Nat.reduceLeDiff, Nat.reduceLT, Nat.reduceEqDiff, LT.lo, Leaf.lo, Number_ok, Option.bind_some]
    by_cases h1 : cmpI a1 b1 = 0
    · simp -implicitDefEqProofs only [h1, eq_self, decide_true, decide_false, ne_eq, not_true_eq_false, not_false_eq_true, reduceIte, Bool.not_true, Bool.not_false, cond_true, cond_false, Bool.not_true, cond_false, evs, reduceIte, rdRes, rdTT, rdTy, rdLT, Res.un, TT.un, Ty.un, LT.un, Leaf.un, Leaf.plain, LT.plain, evh, List.replicate, splice, LT.pack, Leaf.pack, Nat.reduceAdd, Nat.reduceSub, Nat.reduceLeDiff, Nat.reduceLT, Nat.reduceEqDiff, LT.lo, Leaf.lo, Number_ok, Option.bind_some]
    · simp -implicitDefEqProofs only [h1, eq_self, decide_true, decide_false, ne_eq, not_true_eq_false, not_false_eq_true, reduceIte, Bool.not_true, Bool.not_false, cond_true, cond_false, Bool.not_false, cond_true, evs, reduceIte, rdRes, rdTT, rdTy, rdLT, Res.un, TT.un, Ty.un, LT.un, Leaf.un, Leaf.plain, LT.plain, evh, List.replicate, splice, LT.pack, Leaf.pack, Nat.reduceAdd, Nat.reduceSub, Nat.reduceLeDiff, Nat.reduceLT, Nat.reduceEqDiff, LT.lo, Leaf.lo, Option.bind_some]
  · simp -implicitDefEqProofs only [h0, eq_self, decide_true, decide_false, ne_eq, not_true_eq_false, not_false_eq_true, reduceIte, Bool.not_true, Bool.not_false, cond_true, cond_false, Bool.not_false, cond_true, evs, reduceIte, rdRes, rdTT, rdTy, rdLT, Res.un, TT.un, Ty.un, LT.un, Leaf.un, Leaf.plain, LT.plain, evh, List.replicate, splice, LT.pack, Leaf.pack, Nat.reduceAdd, Nat.reduceSub, Nat.reduceLeDiff, Nat.reduceLT, Nat.reduceEqDiff, LT.lo, Leaf.lo, Option.bind_some]
theorem cmpL_zip {α : Type} (c : α → α → Int) : ∀ a b : List α, cmpL c a b = match (a.zip b).find? fun p => !decide (c p.1 p.2 = 0) with | some p => c p.1 p.2 | none => cmpI a.length b.length
  | [], [] => rfl
  | [], y :: b => by simp [cmpL, cmpI]
  | x :: a, [] => by simp [cmpL, cmpI]; omega
  | x :: a, y :: b => by
    simp only [cmpL, List.zip_cons_cons, List.find?_cons]
    by_cases h : c x y = 0
    · rw [if_neg (by simpa using h), decide_eq_true h, cmpL_zip c a b]
      simp only [Bool.not_true, List.length_cons]
      cases List.find? (fun p => !decide (c p.1 p.2 = 0)) (a.zip b) with
      | some p => rfl
      | none => simp only; unfold cmpI; (repeat' split) <;> omega
    · rw [if_pos h, decide_eq_false h]; rfl
def zipR {α : Type} (c : α → α → Int) (a b : List α) : Flow Unit Int := match (a.zip b).find? fun p => !decide (c p.1 p.2 = 0) with | some p => .ret (c p.1 p.2) | none => .ex0 ()
theorem iter_zip {α : Type} {h : H} {f : Int × H → Option (Stp (Int × H) (Flow Unit Int × H))} (c : α → α → Int) (a b : List α) (hn : a.length < 2 ^ 62)
    (hs : ∀ (i : Nat) x y, a[i]? = some x → b[i]? = some y → f ((i : Int), h) = some (bif !decide (c x y = 0) then .done (.ret (c x y), h) else .more (((i + 1 : Nat) : Int), h)))
    (hd : f (((a.zip b).length : Int), h) = some (.done (.ex0 (), h))) : iter FUEL f (0, h) = some (zipR c a b, h) := by
  have hl : (a.zip b).length ≤ a.length := by rw [List.length_zip]; omega
  rw [iter_find (a.zip b) (fun p => !decide (c p.1 p.2 = 0)) (fun i => (((a.zip b)[i]?).map fun p => c p.1 p.2).getD 0) (by omega) (fun i p hp => by
    obtain ⟨x, y⟩ := p
    have := List.getElem?_zip_eq_some.1 hp
    rw [hs i x y this.1 this.2, hp]
    rfl) hd]
  unfold zipR
  cases hx : (a.zip b).findIdx? fun p => !decide (c p.1 p.2 = 0) with
  | none =>
    have : (a.zip b).find? (fun p => !decide (c p.1 p.2 = 0)) = none := by
      rw [List.findIdx?_eq_none_iff] at hx
      exact List.find?_eq_none.2 fun p hp => by simp only [hx p hp]; simp
    rw [this]
  | some m =>
    rw [List.findIdx?_eq_some_iff_getElem] at hx
    obtain ⟨hm, hp, hlt⟩ := hx
    have : (a.zip b).find? (fun p => !decide (c p.1 p.2 = 0)) = some (a.zip b)[m] := by
      rw [List.find?_eq_some_iff_getElem]
      exact ⟨hp, m, hm, rfl, fun j hj => by simpa using hlt j hj⟩
    rw [this]
    show some (Flow.ret ((((a.zip b)[m]?).map fun p => c p.1 p.2).getD 0), h) = _
    rw [List.getElem?_eq_getElem hm]
    rfl
theorem zip_end {α : Type} (a b : List α) : (decide (((a.zip b).length : Int) < (a.length : Int)) && decide (((a.zip b).length : Int) < (b.length : Int))) = false := by
  rw [List.length_zip]
  by_cases h : a.length ≤ b.length
  · rw [decide_eq_false (by omega)]; rfl
  · rw [decide_eq_false (p := ((min a.length b.length : Nat) : Int) < (b.length : Int)) (by omega), Bool.and_false]
theorem RCompare_ok (x y : Fct) (hx : okF x = true) : r53_CompareP x y = some (cmpF x y) := by
  have c0 : ([cFt false x, cFt false y] : List Slot)[0]? = some (cFt false x) := rfl
  have c1 : ([cFt false x, cFt false y] : List Slot)[1]? = some (cFt false y) := rfl
  obtain ⟨_, _, _, _, p4, p5⟩ := rd_cFt c0
  obtain ⟨_, _, _, _, q4, q5⟩ := rd_cFt c1
  simp only [okF, Bool.and_eq_true, decide_eq_true_eq] at hx
  have L1 : iter FUEL (r53_Compare.loop1 (hL []) (hL [cFt false x])) (0, hL [cFt false x, cFt false y]) = some (zipR cmpI x.2.2.2.2.1 y.2.2.2.2.1, hL [cFt false x, cFt false y]) :=
    iter_zip cmpI _ _ (by omega) (fun i u v hu hv => by
      have hi := (List.getElem?_eq_some_iff.1 hu).1
      have hj := (List.getElem?_eq_some_iff.1 hv).1
      unfold r53_Compare.loop1
      simp only [show (hL ([] : List Slot)).next = 0 from rfl, show (hL [cFt false x]).next = 1 from rfl]
      rw [p4]
      try simp -implicitDefEqProofs only [Option.bind_some, rowSV_len, Int.toNat_natCast]
      rw [decide_eq_true (by omega), cond_true, q4]
      try simp -implicitDefEqProofs only [Option.bind_some, rowSV_len]
      rw [decide_eq_true (by omega), cond_true]
      try simp -implicitDefEqProofs only [reserve0, p4, q4, Option.bind_some, rowSV_len]
      rw [guardO_pos (by omega), rd_rowI, hu, Option.bind_some, guardO_pos (by omega), rd_rowI, hv, Option.bind_some, Number_ok, Option.bind_some, i64_suc (by omega)]
      cases decide (cmpI u v = 0) <;> rfl) (by
      have he := zip_end x.2.2.2.2.1 y.2.2.2.2.1
      unfold r53_Compare.loop1
      simp only [show (hL ([] : List Slot)).next = 0 from rfl, show (hL [cFt false x]).next = 1 from rfl]
      rw [p4]
      try simp -implicitDefEqProofs only [Option.bind_some, rowSV_len, q4]
      cases h1 : decide ((((x.2.2.2.2.1.zip y.2.2.2.2.1).length : Nat) : Int) < (x.2.2.2.2.1.length : Int)) with
      | false => rfl
      | true =>
        rw [h1, Bool.true_and] at he
        rw [cond_true, he]
        rfl)
  have L2 : iter FUEL (r53_Compare.loop2 (hL []) (hL [cFt false x])) (0, hL [cFt false x, cFt false y]) = some (zipR cmpT x.2.2.2.2.2 y.2.2.2.2.2, hL [cFt false x, cFt false y]) :=
    iter_zip cmpT _ _ (by omega) (fun i u v hu hv => by
      have hi := (List.getElem?_eq_some_iff.1 hu).1
      have hj := (List.getElem?_eq_some_iff.1 hv).1
      unfold r53_Compare.loop2
      simp only [show (hL ([] : List Slot)).next = 0 from rfl, show (hL [cFt false x]).next = 1 from rfl]
      rw [p5]
      try simp -implicitDefEqProofs only [Option.bind_some, rowSV_len, Int.toNat_natCast]
      rw [decide_eq_true (by omega), cond_true, q5]
      try simp -implicitDefEqProofs only [Option.bind_some, rowSV_len]
      rw [decide_eq_true (by omega), cond_true]
      try simp -implicitDefEqProofs only [reserve0, p5, q5, Option.bind_some, rowSV_len]
      rw [guardO_pos (by omega), rd_row0 (ls := t1) (w := 1) rfl (by omega), hu, Option.bind_some]
      try simp -implicitDefEqProofs only [Option.bind_some, LT.lo, Leaf.lo, List.getElem?_cons_zero, Leaf.pack]
      rw [guardO_pos (by omega), rd_row0 (ls := t1) (w := 1) rfl (by omega), hv, Option.bind_some]
      try simp -implicitDefEqProofs only [Option.bind_some, LT.lo, Leaf.lo, List.getElem?_cons_zero, Leaf.pack]
      rw [Text_ok, Option.bind_some, i64_suc (by omega)]
      cases decide (cmpT u v = 0) <;> rfl) (by
      have he := zip_end x.2.2.2.2.2 y.2.2.2.2.2
      unfold r53_Compare.loop2
      simp only [show (hL ([] : List Slot)).next = 0 from rfl, show (hL [cFt false x]).next = 1 from rfl]
      rw [p5]
      try simp -implicitDefEqProofs only [Option.bind_some, rowSV_len, q5]
      cases h1 : decide ((((x.2.2.2.2.2.zip y.2.2.2.2.2).length : Nat) : Int) < (x.2.2.2.2.2.length : Int)) with
      | false => rfl
      | true =>
        rw [h1, Bool.true_and] at he
        rw [cond_true, he]
        rfl)
  have K := RKeys_ok (keyF x) (keyF y)
  obtain ⟨a0, a1, a2, a3, a4, a5⟩ := x
  obtain ⟨b0, b1, b2, b3, b4, b5⟩ := y
  simp only at L1 L2 p4 p5 q4 q5
  have z1 := cmpL_zip cmpI a4 b4
  have z2 := cmpL_zip cmpT a5 b5
  unfold cmpF orI
  simp only [keyF] at K ⊢
  rw [z1, z2]
  unfold r53_CompareP r53_Compare
  try simp -implicitDefEqProofs only [hL_empty, hL_new, hL_next, evs, reduceIte, rdRes, rdTT, rdTy, rdLT, Res.un, TT.un, Ty.un, LT.un, Leaf.un, Leaf.plain, LT.plain, evh, List.replicate, splice, LT.pack, Leaf.pack, Nat.reduceAdd, Nat.reduceSub, Nat.reduceLeDiff, Nat.reduceLT, Nat.reduceEqDiff, LT.lo, Leaf.lo, K, Option.bind_some]
  by_cases h0 : cmpK (a0, a1, a2) (b0, b1, b2) = 0
  · simp -implicitDefEqProofs only [h0, eq_self, decide_true, decide_false, ne_eq, not_true_eq_false, not_false_eq_true, reduceIte, Bool.not_true, Bool.not_false, cond_true, cond_false, Bool.not_true, cond_false, evs, reduceIte, rdRes, rdTT, rdTy, rdLT, Res.un, TT.un, Ty.un, LT.un, Leaf.un, Leaf.plain, LT.plain, evh, List.replicate, splice, LT.pack, Leaf.pack, Nat.reduceAdd, Nat.reduceSub, Nat.reduceLeDiff, Nat.reduceLT, Nat.reduceEqDiff, LT.lo, Leaf.lo, Number_ok, Option.bind_some]
    by_cases h1 : cmpI a3 b3 = 0
    · simp -implicitDefEqProofs only [h1, eq_self, decide_true, decide_false, ne_eq, not_true_eq_false, not_false_eq_true, reduceIte, Bool.not_true, Bool.not_false, cond_true, cond_false, Bool.not_true, cond_false, evs, reduceIte, rdRes, rdTT, rdTy, rdLT, Res.un, TT.un, Ty.un, LT.un, Leaf.un, Leaf.plain, LT.plain, evh, List.replicate, splice, LT.pack, Leaf.pack, Nat.reduceAdd, Nat.reduceSub, Nat.reduceLeDiff, Nat.reduceLT, Nat.reduceEqDiff, LT.lo, Leaf.lo, Option.bind_some]
      rw [L1]
      unfold zipR
      cases f1 : (a4.zip b4).find? fun p => !decide (cmpI p.1 p.2 = 0) with
      | some p =>
        have hp : cmpI p.1 p.2 ≠ 0 := by have := List.find?_some f1; simpa using this
        try simp -implicitDefEqProofs only [Option.bind_some, hp, ne_eq, not_false_eq_true, reduceIte, evs, reduceIte, rdRes, rdTT, rdTy, rdLT, Res.un, TT.un, Ty.un, LT.un, Leaf.un, Leaf.plain, LT.plain, evh, List.replicate, splice, LT.pack, Leaf.pack, Nat.reduceAdd, Nat.reduceSub, Nat.reduceLeDiff, Nat.reduceLT, Nat.reduceEqDiff, LT.lo, Leaf.lo]
      | none =>
        try simp -implicitDefEqProofs only [Option.bind_some, p4, q4, rowSV_len, Number_ok]
        by_cases h2 : cmpI (a4.length : Int) (b4.length : Int) = 0
        · simp -implicitDefEqProofs only [h2, eq_self, decide_true, ne_eq, not_true_eq_false, reduceIte, Bool.not_true, cond_false]
          rw [L2]
          unfold zipR
          cases f2 : (a5.zip b5).find? fun p => !decide (cmpT p.1 p.2 = 0) with
          | some p => simp -implicitDefEqProofs only [Option.bind_some, evs, reduceIte, rdRes, rdTT, rdTy, rdLT, Res.un, TT.un, Ty.un, LT.un, Leaf.un, Leaf.plain, LT.plain, evh, List.replicate, splice, LT.pack, Leaf.pack, Nat.reduceAdd, Nat.reduceSub, Nat.reduceLeDiff, Nat.reduceLT, Nat.reduceEqDiff, LT.lo, Leaf.lo, decide_eq_true h2]
          | none => simp -implicitDefEqProofs only [Option.bind_some, p5, q5, rowSV_len, Number_ok, evs, reduceIte, rdRes, rdTT, rdTy, rdLT, Res.un, TT.un, Ty.un, LT.un, Leaf.un, Leaf.plain, LT.plain, evh, List.replicate, splice, LT.pack, Leaf.pack, Nat.reduceAdd, Nat.reduceSub, Nat.reduceLeDiff, Nat.reduceLT, Nat.reduceEqDiff, LT.lo, Leaf.lo, decide_eq_true h2]
        · simp -implicitDefEqProofs only [h2, decide_false, ne_eq, not_false_eq_true, reduceIte, Bool.not_false, cond_true, Option.bind_some, evs, reduceIte, rdRes, rdTT, rdTy, rdLT, Res.un, TT.un, Ty.un, LT.un, Leaf.un, Leaf.plain, LT.plain, evh, List.replicate, splice, LT.pack, Leaf.pack, Nat.reduceAdd, Nat.reduceSub, Nat.reduceLeDiff, Nat.reduceLT, Nat.reduceEqDiff, LT.lo, Leaf.lo]
    · simp -implicitDefEqProofs only [h1, eq_self, decide_true, decide_false, ne_eq, not_true_eq_false, not_false_eq_true, reduceIte, Bool.not_true, Bool.not_false, cond_true, cond_false, Bool.not_false, cond_true, evs, reduceIte, rdRes, rdTT, rdTy, rdLT, Res.un, TT.un, Ty.un, LT.un, Leaf.un, Leaf.plain, LT.plain, evh, List.replicate, splice, LT.pack, Leaf.pack, Nat.reduceAdd, Nat.reduceSub, Nat.reduceLeDiff, Nat.reduceLT, Nat.reduceEqDiff, LT.lo, Leaf.lo, Option.bind_some]
  · simp -implicitDefEqProofs only [h0, eq_self, decide_true, decide_false, ne_eq, not_true_eq_false, not_false_eq_true, reduceIte, Bool.not_true, Bool.not_false, cond_true, cond_false, Bool.not_false, cond_true, evs, reduceIte, rdRes, rdTT, rdTy, rdLT, Res.un, TT.un, Ty.un, LT.un, Leaf.un, Leaf.plain, LT.plain, evh, List.replicate, splice, LT.pack, Leaf.pack, Nat.reduceAdd, Nat.reduceSub, Nat.reduceLeDiff, Nat.reduceLT, Nat.reduceEqDiff, LT.lo, Leaf.lo, Option.bind_some]
instance decF : DecidableEq Fct := fun x y => decidable_of_iff (cmpF x y = 0) cmpF_to.iff
theorem RSame_ok (a b : List Fct) (ha : a.length ≤ 2 ^ 20) (hs : ∀ x ∈ a, smallF x) : r53_SameP a b = some (decide (a = b)) := by
  unfold r53_SameP r53_Same
  try simp -implicitDefEqProofs only [evs, reduceIte, rdRes, rdTT, rdTy, rdLT, Res.un, TT.un, Ty.un, LT.un, Leaf.un, Leaf.plain, LT.plain, rowSV_len]
  by_cases hl : (a.length : Int) = (b.length : Int)
  · rw [decide_eq_true hl]
    try simp -implicitDefEqProofs only [Bool.not_true, cond_false]
    rw [iter_same a b (by omega) (by omega) (fun i x y hx hy hi => by
      have hj := (List.getElem?_eq_some_iff.1 hy).1
      unfold r53_Same.loop1
      try simp -implicitDefEqProofs only [rowSV_len, Int.toNat_natCast, reserve0]
      rw [decide_eq_true (by omega), cond_true, guardO_pos (by omega), rd_fact, hx]
      try simp -implicitDefEqProofs only [Option.bind_some, Option.map_some, low]
      rw [guardO_pos (by omega), rd_fact, hy]
      try simp -implicitDefEqProofs only [Option.bind_some, Option.map_some, low, row_ints', row_texts']
      rw [RCompare_ok x y (small_ok (hs x (List.mem_of_getElem? hx))), Option.bind_some, i64_suc (by omega), show decide (cmpF x y = 0) = decide (x = y) from decide_eq_decide.2 cmpF_to.iff]
      cases decide (x = y) <;> rfl) (by
      unfold r53_Same.loop1
      try simp -implicitDefEqProofs only [rowSV_len]
      rw [decide_eq_false (by omega), cond_false])]
    by_cases h : a = b
    · rw [if_pos h, decide_eq_true h]; rfl
    · rw [if_neg h, decide_eq_false h]; rfl
  · rw [decide_eq_false hl]
    have : ¬ a = b := fun e => hl (by rw [e])
    rw [decide_eq_false this]
    rfl
theorem row_facts2 {f : Bool} {h : H} {l : List Fct} : rdRow true h FC ⟨(rowSV f FC l).a, l.length, l.length, true⟩ = some l := rdRow_args (f := f) rfl
theorem Cp_ok (l : List Fct) (hl : l.length ≤ 2 ^ 20) (hs : ∀ x ∈ l, smallF x) : law_cpP l = some l := by
  unfold law_cpP
  by_cases h0 : l.length = 0
  · have : l = [] := List.eq_nil_of_length_eq_zero h0
    subst this
    rw [cp_nil]
    rfl
  · rw [hL_empty, cp_at hl hs h0, Option.bind_some]
    show rdRow false (hL ([] ++ [.own (cellsL FC l) 6])) FC (ownSV 0 FC l.length) = some l
    exact rdRow_own (ls := FC) (e := 6) (id := 0) rfl rfl rfl
def shortF (x : Fct) : Bool := (x.2.2.2.2.2.all fun s => !decide ((70 : Int) < ((ByteArray.size s : Nat) : Int))) && (decide ((x.2.2.2.2.1.length : Int) ≤ 17) && decide ((x.2.2.2.2.2.length : Int) ≤ 9))
theorem Short_ok (x : Fct) (h : x.2.2.2.2.2.length < 2 ^ 63) : r53_ShortP x = some (shortF x) := by
  have c0 : ([cFt false x] : List Slot)[0]? = some (cFt false x) := rfl
  obtain ⟨_, _, _, _, p4, p5⟩ := rd_cFt c0
  have L1 : iter FUEL (r53_Short.loop1 (hL [])) (0, hL [cFt false x]) = some (match x.2.2.2.2.2.findIdx? fun s => decide ((70 : Int) < ((ByteArray.size s : Nat) : Int)) with | some i => (.ret false, hL [cFt false x]) | none => (.ex0 (), hL [cFt false x])) :=
    iter_find x.2.2.2.2.2 (fun s => decide ((70 : Int) < ((ByteArray.size s : Nat) : Int))) (fun _ => false) (by omega) (fun i s hx => by
      have hi := (List.getElem?_eq_some_iff.1 hx).1
      unfold r53_Short.loop1
      simp only [show (hL ([] : List Slot)).next = 0 from rfl]
      rw [p5]
      try simp -implicitDefEqProofs only [Option.bind_some, rowSV_len, Int.toNat_natCast, p5]
      rw [decide_eq_true (by omega), cond_true, guardO_pos (by omega), rd_row0 (ls := t1) (w := 1) rfl (by omega), hx]
      try simp -implicitDefEqProofs only [Option.bind_some, LT.lo, Leaf.lo, List.getElem?_cons_zero, Leaf.pack]
      rw [i64_succ (by omega)]
      cases decide ((70 : Int) < ((ByteArray.size s : Nat) : Int)) <;> rfl) (by
      unfold r53_Short.loop1
      simp only [show (hL ([] : List Slot)).next = 0 from rfl]
      rw [p5]
      try simp -implicitDefEqProofs only [Option.bind_some, rowSV_len]
      rw [decide_eq_false (by omega), cond_false])
  obtain ⟨a0, a1, a2, a3, a4, a5⟩ := x
  simp only at L1 p4 p5
  unfold r53_ShortP r53_Short shortF
  try simp -implicitDefEqProofs only [hL_empty, hL_new, hL_next, List.nil_append, rowSV_len, rowSV_cap, rowSV_tail]
  rw [L1]
  have ha := all_find (fun s : ByteArray => !decide ((70 : Int) < ((ByteArray.size s : Nat) : Int))) a5
  simp only [Bool.not_not] at ha
  rw [ha]
  cases a5.findIdx? fun s => decide ((70 : Int) < ((ByteArray.size s : Nat) : Int)) with
  | some i => rfl
  | none =>
    try simp -implicitDefEqProofs only [Option.bind_some, show (hL ([] : List Slot)).next = 0 from rfl, List.length_nil, p4, p5, rowSV_len]
    cases decide ((a4.length : Int) ≤ 17) <;> rfl
theorem Few3_ok (l : List Fct) (n : Int) (hl : l.length < 2 ^ 63) (hs : ∀ x ∈ l, x.2.2.2.2.2.length < 2 ^ 63) : r53_FewP l n = some (l.all shortF && decide ((l.length : Int) ≤ n)) := by
  unfold r53_FewP r53_Few
  rw [iter_find l (fun x => !shortF x) (fun _ => false) (by omega) (fun i x hx => by
    have hi := (List.getElem?_eq_some_iff.1 hx).1
    unfold r53_Few.loop1
    try simp -implicitDefEqProofs only [rowSV_len, Int.toNat_natCast]
    rw [decide_eq_true (by omega), cond_true, guardO_pos (by omega), rd_fact, hx]
    try simp -implicitDefEqProofs only [Option.bind_some, Option.map_some, low, row_ints', row_texts', Short_ok x (hs x (List.mem_of_getElem? hx))]
    rw [i64_succ (by omega)]
    cases shortF x <;> rfl) (by
    unfold r53_Few.loop1
    try simp -implicitDefEqProofs only [rowSV_len]
    rw [decide_eq_false (by omega), cond_false])]
  have ha := all_find shortF l
  rw [ha]
  cases l.findIdx? fun x => !shortF x with
  | some i => rfl
  | none => simp -implicitDefEqProofs only [Option.bind_some, rowSV_len, evs, reduceIte, rdRes, rdTT, rdTy, rdLT, Res.un, TT.un, Ty.un, LT.un, Leaf.un, Leaf.plain, LT.plain]; rfl
def fewF (l : List Fct) : Bool := (l.all shortF && decide ((l.length : Int) ≤ 16)) || (decide ((l.length : Int) = 1025) && l.all shortF)
theorem Few_ok (l : List Fct) (hl : l.length < 2 ^ 63) (hs : ∀ x ∈ l, x.2.2.2.2.2.length < 2 ^ 63) : r54_FewP l = some (fewF l) := by
  unfold r54_FewP r54_Few fewF
  try simp -implicitDefEqProofs only [evs, reduceIte, rdRes, rdTT, rdTy, rdLT, Res.un, TT.un, Ty.un, LT.un, Leaf.un, Leaf.plain, LT.plain, rowSV_len, row_facts, Option.bind_some, Few3_ok l _ hl hs, Int.le_refl, decide_true, Bool.and_true]
  cases (l.all shortF && decide ((l.length : Int) ≤ 16))
  · cases decide ((l.length : Int) = 1025) <;> rfl
  · rfl
theorem shortF_small {x : Fct} (h : shortF x = true) : smallF x := by
  simp only [shortF, Bool.and_eq_true, decide_eq_true_eq] at h
  unfold smallF
  omega
theorem few_small {l : List Fct} (h : fewF l = true) : l.length ≤ 1025 ∧ ∀ x ∈ l, smallF x := by
  simp only [fewF, Bool.or_eq_true, Bool.and_eq_true, decide_eq_true_eq, List.all_eq_true] at h
  rcases h with ⟨h1, h2⟩ | ⟨h1, h2⟩
  · exact ⟨by omega, fun x hx => shortF_small (h1 x hx)⟩
  · exact ⟨by omega, fun x hx => shortF_small (h2 x hx)⟩
theorem few_19 {l : List Fct} (h : fewF l = true) (hc : checkL l = 0) : l.length ≤ 16 := by
  simp only [fewF, Bool.or_eq_true, Bool.and_eq_true, decide_eq_true_eq] at h
  have := (checkL_zero hc).1
  omega
theorem sort_loop1 {a0 : SV} {sl : List Slot} {xs : List Fct} {s : SV} {o : Option Nat} {l : List Fct} {i : Nat} {x : Fct} {f : Bool} (ha : a0 = rowSV f FC l) (A : Acc sl FC xs s o) (hx : l[i]? = some x) (hs : ∀ y ∈ xs, okF y = true) (hl : xs.length ≤ 2 ^ 20) :
    ∃ k, k ≤ xs.length ∧ iter FUEL (r53_Sort.loop1 a0 s (i : Int)) ((xs.length : Int), hL sl) = some (.ex0 ((k : Nat) : Int), hL sl) ∧ (∀ j, k ≤ j → (hj : j < xs.length) → 0 < cmpF xs[j] x) ∧ (0 < k → ∀ (hk : k - 1 < xs.length), ¬ 0 < cmpF xs[k - 1] x) := by
  have hi := (List.getElem?_eq_some_iff.1 hx).1
  obtain ⟨q, hq, hp⟩ := iter_inv (f := r53_Sort.loop1 a0 s (i : Int)) (Inv := fun st => ∃ k : Nat, st = ((k : Int), hL sl) ∧ k ≤ xs.length ∧ ∀ j, k ≤ j → (hj : j < xs.length) → 0 < cmpF xs[j] x)
    (Post := fun q => ∃ k : Nat, q = (.ex0 ((k : Nat) : Int), hL sl) ∧ k ≤ xs.length ∧ (∀ j, k ≤ j → (hj : j < xs.length) → 0 < cmpF xs[j] x) ∧ (0 < k → ∀ (hk : k - 1 < xs.length), ¬ 0 < cmpF xs[k - 1] x)) (fun st => st.1.toNat) (fun st hi' => by
      obtain ⟨k, rfl, hk, hall⟩ := hi'
      by_cases h0 : 0 < k
      · have hy : xs[k - 1]? = some xs[k - 1] := List.getElem?_eq_getElem (by omega)
        have rd : rdT FactT (hL sl) (V.add s.a ((k - 1) * 6)) = some (low true xs[k - 1]) := by
          cases o with
          | none =>
            have h1 : xs.length = 0 := by rw [A.1]; rfl
            omega
          | some id =>
            obtain ⟨_, rfl, h3⟩ := A
            exact own_fact h3 hy
        have step : ∀ b, decide ((0 : Int) < cmpF xs[k - 1] x) = b → r53_Sort.loop1 a0 s (i : Int) ((k : Int), hL sl) = some (bif b then .more (((k - 1 : Nat) : Int), hL sl) else .done (.ex0 ((k : Nat) : Int), hL sl)) := fun b hb => by
          unfold r53_Sort.loop1
          subst ha
          try simp -implicitDefEqProofs only [reserve0]
          rw [decide_eq_true (by omega), cond_true, i64q (z := (k : Int) - 1) (m := k - 1) (by omega) (by omega), guardO_pos (by rw [A.len]; omega), Int.toNat_natCast, rd]
          try simp -implicitDefEqProofs only [Option.bind_some, low, rowSV_len, Int.toNat_natCast]
          rw [guardO_pos (by omega), rd_fact, hx]
          try simp -implicitDefEqProofs only [Option.bind_some, Option.map_some, low, row_ints', row_texts']
          rw [RCompare_ok _ _ (hs _ (List.getElem_mem (by omega)))]
          try simp -implicitDefEqProofs only [Option.bind_some]
          rw [hb]
          cases b <;> rfl
        cases hb : decide ((0 : Int) < cmpF xs[k - 1] x) with
        | true =>
          left
          refine ⟨_, step true hb, ⟨k - 1, rfl, by omega, fun j hj hjl => ?_⟩, by simp only [Int.toNat_natCast]; omega⟩
          by_cases e : j = k - 1
          · subst e; simpa using hb
          · exact hall j (by omega) hjl
        | false =>
          right
          exact ⟨_, step false hb, k, rfl, hk, hall, fun _ _ => by simpa using hb⟩
      · right
        refine ⟨(.ex0 ((k : Nat) : Int), hL sl), ?_, k, rfl, hk, hall, fun h => absurd h h0⟩
        unfold r53_Sort.loop1
        try simp -implicitDefEqProofs only [reserve0]
        rw [decide_eq_false (by omega)]
        rfl) FUEL ((xs.length : Int), hL sl) ⟨xs.length, rfl, Nat.le_refl _, fun j h1 h2 => by omega⟩ (fuel_gt (by simp only [Int.toNat_natCast]; omega))
  obtain ⟨k, rfl, h1, h2, h3⟩ := hp
  exact ⟨k, h1, hq, h2, h3⟩
theorem cells_own {sl : List Slot} {xs : List Fct} {id k n c : Nat} {t : Bool} (h : sl[id]? = some (.own (cellsL FC xs) 6)) (hk : k + n ≤ xs.length) : cellsOf (hL sl) (.slice (.hp id (xs.length * 6) (k * 6)) n c t) 6 = some (n, cellsL FC ((xs.drop k).take n)) := by
  unfold cellsOf
  simp only
  by_cases h0 : n = 0
  · subst h0; rw [if_pos rfl]; rfl
  · rw [if_neg h0]
    have hl : (cellsL FC xs).length = xs.length * 6 := flat6 xs
    have hd : (cellsL FC xs).drop (k * 6) = cellsL FC (xs.drop k) := flat_drop (f := true) (ls := FC) xs k
    simp only [H.rds, H.from, hL_m, h, Option.getD_some, hl, if_true, Option.bind_some, hd]
    have hl2 := flat6 (xs.drop k)
    rw [List.length_drop] at hl2
    rw [if_pos ⟨by rw [hl2]; omega, by omega⟩, take6]
    rfl
theorem acc_cells {sl : List Slot} {xs : List Fct} {s : SV} {o : Option Nat} (A : Acc sl FC xs s o) {k n c : Nat} {t : Bool} (hk : k + n ≤ xs.length) : cellsOf (hL sl) (.slice (V.add s.a (k * 6)) n c t) 6 = some (n, cellsL FC ((xs.drop k).take n)) := by
  cases o with
  | none =>
    have h1 : xs.length = 0 := by rw [A.1]; rfl
    have : n = 0 := by omega
    subst this
    rfl
  | some id =>
    obtain ⟨_, rfl, h3⟩ := A
    have := cells_own (k := k) (n := n) (c := c) (t := t) h3 hk
    rw [show V.add (ownSV id FC xs.length).a (k * 6) = .hp id (xs.length * 6) (k * 6) by simp [ownSV, V.add]]
    exact this
theorem app_lit {x : Fct} {ys : List Fct} {sl : List Slot} (hl : ys.length ≤ 2 ^ 20) :
    ∃ s27 sl27, appendS (hL sl) none 6 80 ⟨.lp true (cellsF true x) 0, 1, 1, false⟩ (cellsL FC ys) ys.length = some (s27, hL sl27) ∧ cellsOf (hL sl27) (.slice s27.a s27.len s27.cap s27.tail) 6 = some (ys.length + 1, cellsL FC (x :: ys)) ∧ ∃ t, sl27 = sl ++ t := by
  by_cases h0 : ys.length = 0
  · have : ys = [] := List.eq_nil_of_length_eq_zero h0
    subst this
    refine ⟨⟨.lp true (cellsF true x) 0, 1, 1, false⟩, sl, ?_, ?_, [], by simp⟩
    · simp only [appendS, appendV]
      rw [if_pos (show ([] : List Fct).length = 0 from rfl)]
    · rfl
  · refine ⟨ownSV sl.length FC (x :: ys).length, sl ++ [.own (cellsL FC (x :: ys)) 6], ?_, ?_, _, rfl⟩
    · simp only [appendS, appendV]
      rw [if_neg h0, guardO_pos ⟨by unfold roomCells; omega, by decide⟩, if_neg (by simp), if_pos ⟨trivial, by omega⟩]
      have hc : cellsOf (hL sl) (.slice (.lp true (cellsF true x) 0) 1 1 false) 6 = some (1, cellsF true x) := rfl
      rw [hc]
      simp only [Option.bind_some, newAt, hL_new, hL_next]
      rw [show (1 + ys.length) * 6 = (x :: ys).length * 6 by simp only [List.length_cons]; omega, show 1 + ys.length = (x :: ys).length by simp only [List.length_cons]; omega]
      rfl
    · have := cells_own (sl := sl ++ [.own (cellsL FC (x :: ys)) 6]) (xs := x :: ys) (id := sl.length) (k := 0) (n := (x :: ys).length) (c := (x :: ys).length) (t := true) new_at (by omega)
      rw [Nat.zero_mul, List.drop_zero, List.take_length] at this
      exact this
theorem app_cut {xs ys : List Fct} {s : SV} {o : Option Nat} {sl : List Slot} (A : Acc sl FC xs s o) {k : Nat} (hk : k ≤ xs.length) (hy : ys.length ≠ 0) (hl : xs.length + ys.length ≤ 2 ^ 21) :
    appendS (hL sl) none 6 80 ⟨V.add s.a 0, k, k, false⟩ (cellsL FC ys) ys.length = some (ownSV sl.length FC (xs.take k ++ ys).length, hL (sl ++ [.own (cellsL FC (xs.take k ++ ys)) 6])) := by
  have hlen : (xs.take k ++ ys).length = k + ys.length := by rw [List.length_append, List.length_take, Nat.min_eq_left hk]
  have hcl : cellsL FC (xs.take k ++ ys) = cellsL FC (xs.take k) ++ cellsL FC ys := List.flatMap_append
  rw [add_zero]
  have new : ∀ (k' : Nat), k' = k → (newAt (hL sl) none (cellsL FC (xs.take k) ++ cellsL FC ys) 6 ((k' + ys.length) * 6) fun p h' => some ((⟨p, k' + ys.length, k' + ys.length, true⟩ : SV), h')) = some (ownSV sl.length FC (xs.take k ++ ys).length, hL (sl ++ [.own (cellsL FC (xs.take k ++ ys)) 6])) := fun k' e => by
    subst e
    simp only [newAt, hL_new, hL_next]
    rw [hcl, hlen]
    rfl
  have zero : k = 0 → (newAt (hL sl) none (cellsL FC ys) 6 (ys.length * 6) fun p h' => some ((⟨p, ys.length, ys.length, true⟩ : SV), h')) = some (ownSV sl.length FC (xs.take k ++ ys).length, hL (sl ++ [.own (cellsL FC (xs.take k ++ ys)) 6])) := fun e => by
    have := new k rfl
    rw [e, Nat.zero_add, List.take_zero] at this
    rw [e, List.take_zero]
    exact this
  cases o with
  | none =>
    have h1 : xs.length = 0 := by rw [A.1]; rfl
    have hk0 : k = 0 := by omega
    have z := zero hk0
    obtain ⟨_, hs⟩ := A
    simp only [appendS, appendV]
    rw [if_neg hy, guardO_pos ⟨by unfold roomCells; omega, by decide⟩]
    rcases hs with rfl | rfl
    · simp only [nilSV]
      rw [if_pos ⟨hk0, trivial, hk0⟩]
      exact z
    · simp only
      rw [if_pos ⟨hk0, trivial, hk0⟩]
      exact z
  | some id =>
    obtain ⟨h1, rfl, h3⟩ := A
    have hm : (hL sl).m id = .own (cellsL FC xs) 6 := by rw [hL_m, h3]; rfl
    simp only [appendS, appendV]
    rw [if_neg hy, guardO_pos ⟨by unfold roomCells; omega, by decide⟩]
    simp only [ownSV, hm]
    by_cases hk0 : k = 0
    · rw [if_pos hk0, if_pos ⟨trivial, hk0, trivial⟩]
      exact zero hk0
    · rw [if_neg hk0, if_neg (by omega), if_neg (by simp), if_pos ⟨trivial, trivial⟩]
      have hc := cells_own (k := 0) (n := k) (c := k) (t := false) h3 (by omega)
      rw [Nat.zero_mul, List.drop_zero] at hc
      have hc' : cellsOf (hL sl) (.slice (.hp id (xs.length * FC.length) 0) k k false) 6 = some (k, cellsL FC (xs.take k)) := hc
      rw [hc', Option.bind_some]
      exact new k rfl
theorem acc_room {sl : List Slot} {xs : List Fct} {s : SV} {o : Option Nat} (A : Acc sl FC xs s o) : s.cap = xs.length := by
  cases o with
  | none => obtain ⟨rfl, rfl | rfl⟩ := A <;> rfl
  | some id => obtain ⟨_, rfl, _⟩ := A; rfl
theorem ins_sorted {xs : List Fct} {x : Fct} {k : Nat} (hs : xs.Pairwise fun a b => cmpF a b ≤ 0) (hk : k ≤ xs.length) (h1 : ∀ j, k ≤ j → (hj : j < xs.length) → 0 < cmpF xs[j] x) (h2 : 0 < k → ∀ (hk : k - 1 < xs.length), ¬ 0 < cmpF xs[k - 1] x) :
    (xs.take k ++ x :: xs.drop k).Pairwise fun a b => cmpF a b ≤ 0 := by
  rw [List.pairwise_append]
  have hd : ∀ y ∈ xs.drop k, cmpF x y ≤ 0 := fun y hy => by
    obtain ⟨j, hj, rfl⟩ := List.mem_iff_getElem.1 hy
    rw [List.length_drop] at hj
    rw [List.getElem_drop]
    have := h1 (k + j) (by omega) (by omega)
    have := cmpF_to.anti x xs[k + j]
    omega
  have ht : ∀ y ∈ xs.take k, cmpF y x ≤ 0 := fun y hy => by
    obtain ⟨j, hj, rfl⟩ := List.mem_iff_getElem.1 hy
    rw [List.length_take] at hj
    rw [List.getElem_take]
    have hk1 : k - 1 < xs.length := by omega
    have := h2 (by omega) hk1
    by_cases e : j = k - 1
    · subst e; omega
    · have h3 := List.pairwise_iff_getElem.1 hs j (k - 1) (by omega) hk1 (by omega)
      exact cmpF_to.le_trans h3 (by omega)
  refine ⟨hs.sublist (List.take_sublist _ _), List.pairwise_cons.2 ⟨hd, hs.sublist (List.drop_sublist _ _)⟩, fun a ha b hb => ?_⟩
  rcases List.mem_cons.1 hb with rfl | hb
  · exact ht a ha
  · exact cmpF_to.le_trans (ht a ha) (hd b hb)
theorem RSort_ok (l : List Fct) (hl : l.length ≤ 2 ^ 11) (hs : ∀ x ∈ l, smallF x) : r53_SortP l = some (sortF l) := by
  obtain ⟨q, hq, hp⟩ := iter_inv (f := r53_Sort.loop2 (rowSV false FC l)) (Inv := fun st => ∃ (i : Nat) (xs : List Fct) (s : SV) (sl : List Slot) (o : Option Nat), st = ((s, (i : Int)), hL sl) ∧ i ≤ l.length ∧ Acc sl FC xs s o ∧ xs.Perm (l.take i) ∧ xs.Pairwise fun a b => cmpF a b ≤ 0)
    (Post := fun q => ∃ sl s o, q = (.ex0 s, hL sl) ∧ Acc sl FC (sortF l) s o) (fun st => l.length - st.1.2.toNat) (fun st hi => by
      obtain ⟨i, xs, s, sl, o, rfl, hil, A, hperm, hsort⟩ := hi
      have hxl : xs.length = i := by rw [hperm.length_eq, List.length_take]; omega
      by_cases hlt : i < l.length
      · left
        have hx : l[i]? = some l[i] := List.getElem?_eq_getElem hlt
        have hxs : ∀ y ∈ xs, smallF y := fun y hy => hs y (List.mem_of_mem_take (hperm.mem_iff.1 hy))
        obtain ⟨k, hk, e1, hgt, hle⟩ := sort_loop1 (f := false) rfl A hx (fun y hy => small_ok (hxs y hy)) (by omega)
        have hcells : cellsOf (hL sl) (.slice (V.add s.a (k * 6)) (xs.length - k) (s.cap - k) s.tail) 6 = some (xs.length - k, cellsL FC (xs.drop k)) := by
          have := acc_cells A (k := k) (n := xs.length - k) (c := s.cap - k) (t := s.tail) (by omega)
          rw [List.take_of_length_le (by rw [List.length_drop]; exact Nat.le_refl _)] at this
          exact this
        have hdl : (xs.drop k).length = xs.length - k := List.length_drop
        obtain ⟨s27, sl27, a1, a2, t, rfl⟩ := app_lit (x := l[i]) (ys := xs.drop k) (sl := sl) (by omega)
        rw [hdl] at a1 a2
        have a3 := app_cut (A.more (sl' := t)) (ys := l[i] :: xs.drop k) hk (by simp) (by simp only [List.length_cons]; omega)
        have hyl : (l[i] :: xs.drop k).length = xs.length - k + 1 := by simp
        rw [hyl] at a3
        refine ⟨((_, ((i + 1 : Nat) : Int)), hL (sl ++ t ++ [.own (cellsL FC (xs.take k ++ l[i] :: xs.drop k)) 6])), ?_, ⟨i + 1, xs.take k ++ l[i] :: xs.drop k, _, _, some (sl ++ t).length, rfl, by omega, ⟨by rw [List.length_append, hyl]; omega, rfl, new_at⟩, ?_, ins_sorted hsort hk hgt hle⟩, by simp only [Int.toNat_natCast]; omega⟩
        · unfold r53_Sort.loop2
          try simp -implicitDefEqProofs only [rowSV_len, Int.toNat_natCast]
          rw [decide_eq_true (by omega), cond_true, A.len, e1]
          try simp -implicitDefEqProofs only [Option.bind_some, reserve0, Int.toNat_natCast]
          rw [guardO_pos (by omega), rd_fact, hx]
          try simp -implicitDefEqProofs only [Option.bind_some, Option.map_some, low, row_ints', row_texts', Copy_ok _ (hs _ (List.getElem_mem hlt))]
          rw [guardO_pos ⟨by omega, by omega, by rw [acc_room A]; omega⟩, hcells]
          try simp -implicitDefEqProofs only [Option.bind_some]
          have a1' : appendS (hL sl) none 6 80 ⟨.lp true [.int .i64 l[i].1, .int .i64 l[i].2.1, .int .i64 l[i].2.2.1, .int .i64 l[i].2.2.2.1, .slice (rowSV true j1 l[i].2.2.2.2.1).a l[i].2.2.2.2.1.length l[i].2.2.2.2.1.length true, .slice (rowSV true t1 l[i].2.2.2.2.2).a l[i].2.2.2.2.2.length l[i].2.2.2.2.2.length true] 0, 1, 1, false⟩ (cellsL FC (xs.drop k)) (xs.length - k) = some (s27, hL (sl ++ t)) := a1
          rw [a1']
          try simp -implicitDefEqProofs only [Option.bind_some]
          rw [guardO_pos ⟨by omega, by omega, by omega, by rw [acc_room A]; omega⟩, a2]
          try simp -implicitDefEqProofs only [Option.bind_some, Int.toNat_zero, Nat.sub_zero]
          rw [a3]
          try simp -implicitDefEqProofs only [Option.bind_some]
          rw [i64_suc (by omega)]
        · rw [take_snoc hx]
          have h1 : (xs.take k ++ l[i] :: xs.drop k).Perm (l[i] :: (xs.take k ++ xs.drop k)) := List.perm_middle
          rw [List.take_append_drop] at h1
          exact h1.trans ((List.Perm.cons _ hperm).trans (List.perm_append_comm (l₁ := [l[i]])))
      · right
        have : i = l.length := by omega
        subst this
        rw [List.take_length] at hperm
        refine ⟨(.ex0 s, hL sl), ?_, sl, s, o, rfl, by rw [← sort_is hperm hsort]; exact A⟩
        unfold r53_Sort.loop2
        try simp -implicitDefEqProofs only [rowSV_len]
        rw [decide_eq_false (by omega), cond_false]) FUEL ((⟨.nil, 0, 0, false⟩, 0), hL []) ⟨0, [], _, [], none, rfl, Nat.zero_le _, Acc.nil, List.Perm.refl _, List.Pairwise.nil⟩ (fuel_gt (by simp only [Int.toNat_zero]; omega))
  obtain ⟨sl, s, o, rfl, A⟩ := hp
  unfold r53_SortP r53_Sort
  rw [hL_empty, hq]
  exact A.read rfl
theorem ROnce_ok (l : List Fct) (hl : l.length ≤ 2 ^ 11) (hs : ∀ x ∈ l, smallF x) : r54_OnceP l = some (onceF l) := by
  obtain ⟨r, hr⟩ : ∃ r, r = sortF l := ⟨_, rfl⟩
  have hrl : r.length = l.length := by rw [hr]; exact sortB_perm.length_eq
  have hrs : ∀ x ∈ r, smallF x := fun x hx => hs x (by rw [hr] at hx; exact sortB_perm.mem_iff.1 hx)
  obtain ⟨q, hq, hp⟩ := iter_inv (f := r54_Once.loop1 r) (Inv := fun st => ∃ (i : Nat) (s : SV) (sl : List Slot) (o : Option Nat), st = ((s, (i : Int)), hL sl) ∧ i ≤ r.length ∧ Acc sl FC (compF (r.take i)) s o)
    (Post := fun q => ∃ sl s o, q = (.ex0 s, hL sl) ∧ Acc sl FC (compF r) s o) (fun st => r.length - st.1.2.toNat) (fun st hi => by
      obtain ⟨i, s, sl, o, rfl, hil, A⟩ := hi
      by_cases hlt : i < r.length
      · left
        have hx : r[i]? = some r[i] := List.getElem?_eq_getElem hlt
        have hcl : (compF (r.take i)).length ≤ 2 ^ 12 := by have := compF_len (r.take i); rw [List.length_take] at this; omega
        obtain ⟨s', sl', id', k1, k2, _⟩ := A.append (w := 6) (b := 80) (x := r[i]) (vs := cellsF true r[i]) rfl (by decide) (by omega) (by decide) rfl
        have fin : ∀ b : Bool, ((bif b then (guardO (0 ≤ (i : Int) ∧ (i : Int) < ((r.length : Nat) : Int)) ((rdT FactT (hL sl) (V.add ((rowSV true FC r).a) (Int.toNat (i : Int) * 6))).bind fun x16 => ((appendS (hL sl) none 6 80 s [.int .i64 x16.1, .int .i64 x16.2.1, .int .i64 x16.2.2.1, .int .i64 x16.2.2.2.1, .slice x16.2.2.2.2.1.a x16.2.2.2.2.1.len x16.2.2.2.2.1.cap x16.2.2.2.2.1.tail, .slice x16.2.2.2.2.2.a x16.2.2.2.2.2.len x16.2.2.2.2.2.cap x16.2.2.2.2.2.tail] 1).bind fun p => (some (Flow.next p.1, p.2))))) else (some (Flow.next s, hL sl)) : Option (Flow SV SV × H))) = some (Flow.next (bif b then s' else s), bif b then hL sl' else hL sl) := fun b => by
          cases b with
          | false => rfl
          | true =>
            rw [cond_true, guardO_pos (by omega), Int.toNat_natCast, rd_fact, hx]
            try simp -implicitDefEqProofs only [Option.bind_some, Option.map_some, low, rowSV_len, rowSV_cap, rowSV_tail, k1, cond_true]
        by_cases h0 : i = 0
        · subst h0
          refine ⟨((s', ((0 + 1 : Nat) : Int)), hL sl'), ?_, ⟨1, s', sl', some id', rfl, by omega, ?_⟩, by simp only [Int.toNat_natCast]; omega⟩
          · unfold r54_Once.loop1
            try simp -implicitDefEqProofs only [Int.toNat_natCast]
            rw [decide_eq_true (by omega), cond_true]
            try simp -implicitDefEqProofs only [reserve0]
            rw [decide_eq_true (by omega)]
            try simp -implicitDefEqProofs only [Bool.not_true, cond_false, Option.bind_some]
            have := fin true
            simp only [cond_true, Int.toNat_natCast] at this
            rw [cond_true, this]
            try simp -implicitDefEqProofs only [Option.bind_some]
            rw [i64_suc (by omega)]
          · have : compF (r.take 1) = compF (r.take 0) ++ [r[0]] := by rw [take_snoc hx]; rfl
            rw [this]; exact k2
        · have hy : r[i - 1]? = some r[i - 1] := List.getElem?_eq_getElem (by omega)
          have htk := compF_take (xs := r) (m := i) (by omega) hlt
          rw [gq_eq hlt, gq_eq (by omega)] at htk
          have hsw : (cmpF r[i - 1] r[i] = 0) ↔ (cmpF r[i] r[i - 1] = 0) := ⟨fun e => cmpF_to.ord.zero e, fun e => cmpF_to.ord.zero e⟩
          have step : ∀ b, decide (cmpF r[i - 1] r[i] = 0) = b → r54_Once.loop1 r ((s, (i : Int)), hL sl) = some (.more ((bif !b then s' else s, ((i + 1 : Nat) : Int)), bif !b then hL sl' else hL sl)) := fun b hb => by
            unfold r54_Once.loop1
            try simp -implicitDefEqProofs only [Int.toNat_natCast]
            rw [decide_eq_true (by omega), cond_true]
            try simp -implicitDefEqProofs only [reserve0]
            rw [decide_eq_false (by omega)]
            try simp -implicitDefEqProofs only [Bool.not_false, cond_true]
            rw [i64q (z := (i : Int) - 1) (m := i - 1) (by omega) (by omega), guardO_pos (by omega), Int.toNat_natCast, rd_fact, hy]
            try simp -implicitDefEqProofs only [Option.bind_some, Option.map_some, low]
            rw [guardO_pos (by omega), rd_fact, hx]
            try simp -implicitDefEqProofs only [Option.bind_some, Option.map_some, low, row_ints', row_texts']
            rw [RCompare_ok _ _ (small_ok (hrs _ (List.getElem_mem (by omega))))]
            try simp -implicitDefEqProofs only [Option.bind_some, hb]
            have := fin (!b)
            simp only [Int.toNat_natCast] at this
            rw [this]
            try simp -implicitDefEqProofs only [Option.bind_some]
            rw [i64_suc (by omega)]
          cases hb : decide (cmpF r[i - 1] r[i] = 0) with
          | true =>
            refine ⟨_, step true hb, ⟨i + 1, s, sl, o, rfl, by omega, ?_⟩, by simp only [Int.toNat_natCast]; omega⟩
            rw [htk, if_pos (hsw.1 (by simpa using hb)), List.append_nil]
            exact A
          | false =>
            refine ⟨_, step false hb, ⟨i + 1, s', sl', some id', rfl, by omega, ?_⟩, by simp only [Int.toNat_natCast]; omega⟩
            rw [htk, if_neg (fun e => by have := hsw.2 e; simp [this] at hb)]
            exact k2
      · right
        have : i = r.length := by omega
        subst this
        refine ⟨(.ex0 s, hL sl), ?_, sl, s, o, rfl, by rw [List.take_length] at A; exact A⟩
        unfold r54_Once.loop1
        try simp -implicitDefEqProofs only []
        rw [decide_eq_false (by omega), cond_false]) FUEL ((⟨.nil, 0, 0, false⟩, 0), hL []) ⟨0, _, [], none, rfl, Nat.zero_le _, Acc.nil⟩ (fuel_gt (by simp only [Int.toNat_zero]; omega))
  obtain ⟨sl, s, o, rfl, A⟩ := hp
  unfold r54_OnceP r54_Once
  rw [row_facts, Option.bind_some, RSort_ok l hl hs, Option.bind_some, ← hr, hL_empty, hq]
  have : onceF l = compF r := by unfold onceF; rw [hr]
  rw [this]
  exact A.read rfl
def kAt (r : List Fct) (i : Nat) : Ky := keyF (gq r i)
theorem kAt_le {r : List Fct} (hs : r.Pairwise fun a b => cmpF a b < 0) {i j : Nat} (hij : i < j) (hj : j < r.length) : cmpK (kAt r i) (kAt r j) ≤ 0 := by
  unfold kAt
  rw [gq_eq (by omega), gq_eq hj]
  exact key_le (List.pairwise_iff_getElem.1 hs i j (by omega) hj hij)
theorem between {r : List Fct} (hs : r.Pairwise fun a b => cmpF a b < 0) {i m j : Nat} (h1 : i ≤ m) (h2 : m ≤ j) (hj : j < r.length) (e : kAt r i = kAt r j) : kAt r m = kAt r j := by
  by_cases hi : i = m
  · subst hi; exact e
  by_cases hm : m = j
  · subst hm; rfl
  have a := kAt_le hs (show i < m by omega) (by omega)
  have b := kAt_le hs (show m < j by omega) hj
  rw [e] at a
  have := cmpK_to.anti (kAt r j) (kAt r m)
  have := cmpK_to.anti (kAt r m) (kAt r j)
  exact cmpK_to.zero _ _ (by omega)
theorem rd_cOut3 {sl : List Slot} {id : Nat} {a b c d : SV} (h : sl[id]? = some (cOut a b c d)) : rdT (.leaf .slice) (hL sl) (.hp id 4 3) = some d := by
  rw [rd_own (g := 4) h rfl]; rfl
theorem wr_cOut3 {sl : List Slot} {id : Nat} {a b c d : SV} (h : sl[id]? = some (cOut a b c d)) (s : SV) : H.wrs (hL sl) (.hp id 4 3) [.slice s.a s.len s.cap s.tail] = some (hL (sl.set id (cOut a b c s))) := by
  rw [wrs_own (g := 4) h rfl (by simp)]; rfl
structure MI (sl : List Slot) (con : SV) (fs : List Fct) (ids rfs : List Ky) : Prop where
  zero : sl[0]? = some n4
  out : ∃ s1 o1 s3 o3 s4 o4, sl[1]? = some (cOut s1 con s3 s4) ∧ Acc sl FC fs s1 o1 ∧ Acc sl KC ids s3 o3 ∧ Acc sl KC rfs s4 o4 ∧ (∀ j, o1 = some j → 1 < j ∧ o3 ≠ some j ∧ o4 ≠ some j) ∧ (∀ j, o3 = some j → 1 < j ∧ o4 ≠ some j) ∧ (∀ j, o4 = some j → 1 < j)
  len : 2 ≤ sl.length
theorem MI.more {sl : List Slot} {con : SV} {fs : List Fct} {ids rfs : List Ky} (m : MI sl con fs ids rfs) (t : List Slot) : MI (sl ++ t) con fs ids rfs := by
  obtain ⟨z, ⟨s1, o1, s3, o3, s4, o4, h, A, B, C, d1, d2, d3⟩, l⟩ := m
  exact ⟨by rw [get_app (by omega)]; exact z, ⟨s1, o1, s3, o3, s4, o4, by rw [get_app (by omega)]; exact h, A.more, B.more, C.more, d1, d2, d3⟩, by rw [List.length_append]; omega⟩
theorem MI.fact {sl : List Slot} {con : SV} {fs : List Fct} {ids rfs : List Ky} (m : MI sl con fs ids rfs) (hn : fs.length ≤ 2 ^ 20) (x : Fct) :
    ∃ s1 sA s' sl5, rdT (.leaf .slice) (hL sl) (.hp 1 4 0) = some s1 ∧ appendS (hL sl) none 6 80 s1 (cellsF true x) 1 = some (s', hL sA) ∧ H.wrs (hL sA) (.hp 1 4 0) [.slice s'.a s'.len s'.cap s'.tail] = some (hL sl5) ∧ MI sl5 con (fs ++ [x]) ids rfs := by
  obtain ⟨z, ⟨s1, o1, s3, o3, s4, o4, h, A, B, C, d1, d2, d3⟩, l⟩ := m
  obtain ⟨s', sA, id', k1, k2, k3, k4, k5⟩ := A.append (w := 6) (b := 80) (x := x) (vs := cellsF true x) rfl (by decide) (by omega) (by decide) rfl
  have n1 : o1 ≠ some 1 := fun e => by have := (d1 1 e).1; omega
  have n0 : o1 ≠ some 0 := fun e => by have := (d1 0 e).1; omega
  have hA : sA[1]? = some (cOut s1 con s3 s4) := by rw [k5 1 n1 (by omega)]; exact h
  have hid : 1 < id' ∧ o3 ≠ some id' ∧ o4 ≠ some id' := by
    rcases k3 with k3 | ⟨_, k3⟩
    · exact d1 _ k3
    · refine ⟨by omega, fun e => ?_, fun e => ?_⟩
      · subst e; have := B.lt; omega
      · subst e; have := C.lt; omega
  refine ⟨s1, sA, s', sA.set 1 (cOut s' con s3 s4), (rd_cOut h).1, k1, (wr_cOut hA s').1, ⟨?_, ⟨s', some id', s3, o3, s4, o4, ?_, ?_, ?_, ?_, fun j e => by cases e; exact hid, d2, d3⟩, by rw [List.length_set]; omega⟩⟩
  · rw [List.getElem?_set_ne (by omega), k5 0 n0 (by omega)]; exact z
  · rw [List.getElem?_set_self (by omega)]
  · exact k2.frame fun j e => by cases e; rw [List.getElem?_set_ne (by omega)]
  · exact B.frame fun j e => by
      rw [List.getElem?_set_ne (by have := (d2 j e).1; omega)]
      exact k5 j (fun e2 => (d1 j e2).2.1 e) (by subst e; exact B.lt)
  · exact C.frame fun j e => by
      rw [List.getElem?_set_ne (by have := d3 j e; omega)]
      exact k5 j (fun e2 => (d1 j e2).2.2 e) (by subst e; exact C.lt)
theorem MI.refuse {sl : List Slot} {con : SV} {fs : List Fct} {ids rfs : List Ky} (m : MI sl con fs ids rfs) (hn : rfs.length ≤ 2 ^ 20) (x : Ky) :
    ∃ s1 sA s' sl5, rdT (.leaf .slice) (hL sl) (.hp 1 4 3) = some s1 ∧ appendS (hL sl) none 3 24 s1 [.int .i64 x.1, .int .i64 x.2.1, .int .i64 x.2.2] 1 = some (s', hL sA) ∧ H.wrs (hL sA) (.hp 1 4 3) [.slice s'.a s'.len s'.cap s'.tail] = some (hL sl5) ∧ MI sl5 con fs ids (rfs ++ [x]) := by
  obtain ⟨z, ⟨s1, o1, s3, o3, s4, o4, h, A, B, C, d1, d2, d3⟩, l⟩ := m
  obtain ⟨s', sA, id', k1, k2, k3, k4, k5⟩ := C.append (w := 3) (b := 24) (x := x) (vs := LT.lo true KC x) rfl (by decide) (by omega) (by decide) rfl
  have n1 : o4 ≠ some 1 := fun e => by have := d3 1 e; omega
  have n0 : o4 ≠ some 0 := fun e => by have := d3 0 e; omega
  have hA : sA[1]? = some (cOut s1 con s3 s4) := by rw [k5 1 n1 (by omega)]; exact h
  have hid : 1 < id' ∧ o3 ≠ some id' ∧ o1 ≠ some id' := by
    rcases k3 with k3 | ⟨_, k3⟩
    · exact ⟨d3 _ k3, fun e => (d2 _ e).2 k3, fun e => (d1 _ e).2.2 k3⟩
    · refine ⟨by omega, fun e => ?_, fun e => ?_⟩
      · subst e; have := B.lt; omega
      · subst e; have := A.lt; omega
  refine ⟨s4, sA, s', sA.set 1 (cOut s1 con s3 s'), rd_cOut3 h, k1, wr_cOut3 hA s', ⟨?_, ⟨s1, o1, s3, o3, s', some id', ?_, ?_, ?_, ?_, fun j e => ⟨(d1 j e).1, (d1 j e).2.1, fun e2 => by cases e2; exact hid.2.2 e⟩, fun j e => ⟨(d2 j e).1, fun e2 => by cases e2; exact hid.2.1 e⟩, fun j e => by cases e; exact hid.1⟩, by rw [List.length_set]; omega⟩⟩
  · rw [List.getElem?_set_ne (by omega), k5 0 n0 (by omega)]; exact z
  · rw [List.getElem?_set_self (by omega)]
  · exact A.frame fun j e => by
      rw [List.getElem?_set_ne (by have := (d1 j e).1; omega)]
      exact k5 j (fun e2 => (d1 j e).2.2 e2) (by subst e; exact A.lt)
  · exact B.frame fun j e => by
      rw [List.getElem?_set_ne (by have := (d2 j e).1; omega)]
      exact k5 j (fun e2 => (d2 j e).2 e2) (by subst e; exact B.lt)
  · exact k2.frame fun j e => by cases e; rw [List.getElem?_set_ne (by omega)]
theorem cntF_len (r : List Fct) : (cntF r).length ≤ r.length := Nat.le_trans (List.length_filterMap_le _ _) (ksF_len r)
def traceF (l : List Fct) (k : Ky) : List Ky × Int := if checkL l = 0 then ((corF (cntF (onceF l)) (cntF (onceF l)) k).map keyF, 0) else ([], checkL l)
theorem trace_loop {x8 : SV} {sl : List Slot} {row : List Fct} (hlen : x8.len = row.length) (hrow : row.length = 0 ∨ ∃ id, x8 = ownSV id FC row.length ∧ sl[id]? = some (.own (cellsL FC row) 6)) (hl : row.length ≤ 2 ^ 20) :
    ∃ sl2 s o, iter FUEL (arrival_Trace.loop1 x8) ((⟨.nil, 0, 0, false⟩, 0), hL sl) = some (.ex0 s, hL sl2) ∧ Acc sl2 KC (row.map keyF) s o := by
  obtain ⟨q, hq, hp⟩ := iter_inv (f := arrival_Trace.loop1 x8) (Inv := fun st => ∃ (i : Nat) (s : SV) (sl2 : List Slot) (o : Option Nat), st = ((s, (i : Int)), hL sl2) ∧ i ≤ row.length ∧ Acc sl2 KC ((row.take i).map keyF) s o ∧ (∀ j, j < sl.length → sl2[j]? = sl[j]?) ∧ (∀ j, o = some j → sl.length ≤ j) ∧ sl.length ≤ sl2.length)
    (Post := fun q => ∃ sl2 s o, q = (.ex0 s, hL sl2) ∧ Acc sl2 KC (row.map keyF) s o) (fun st => row.length - st.1.2.toNat) (fun st hi => by
      obtain ⟨i, s, sl2, o, rfl, hil, A, old, ho, hl2⟩ := hi
      by_cases hlt : i < row.length
      · left
        rcases hrow with h0 | ⟨id, rfl, hc⟩
        · omega
        have hx : row[i]? = some row[i] := List.getElem?_eq_getElem hlt
        have hidl := (List.getElem?_eq_some_iff.1 hc).1
        have of := own_fact (sl := sl2) (by rw [old id hidl]; exact hc) hx
        have A1 : Acc (sl2 ++ [cFt true row[i]]) KC ((row.take i).map keyF) s o := A.more
        obtain ⟨s', sl3, id', k1, k2, k3, k4, k5⟩ := A1.append (w := 3) (b := 24) (x := keyF row[i]) (vs := LT.lo true KC (keyF row[i])) rfl (by decide) (by rw [List.length_map, List.length_take]; omega) (by decide) rfl
        have k1' : appendS (hL (sl2 ++ [cFt true row[i]])) none 3 24 s [.int .i64 (keyF row[i]).1, .int .i64 (keyF row[i]).2.1, .int .i64 (keyF row[i]).2.2] 1 = some (s', hL sl3) := k1
        rw [len_app1] at k3 k4 k5
        refine ⟨((s', ((i + 1 : Nat) : Int)), hL sl3), ?_, ⟨i + 1, s', sl3, some id', rfl, by omega, by rw [take_snoc hx, List.map_append]; exact k2, fun j hj => ?_, fun j e => ?_, by omega⟩, by simp only [Int.toNat_natCast]; omega⟩
        · unfold arrival_Trace.loop1
          try simp -implicitDefEqProofs only [Int.toNat_natCast]
          rw [hlen, decide_eq_true (by omega), cond_true, guardO_pos (by omega), of]
          try simp -implicitDefEqProofs only [Option.bind_some, hL_new, hL_next, low, rowSV_len, rowSV_cap, rowSV_tail, wr_fact, rd_fact_key new_at, k1']
          rw [i64_suc (by omega)]
        · rw [k5 j (fun e => by have := ho j e; omega) (by omega), get_app (by omega)]
          exact old j hj
        · cases e
          rcases k3 with k3 | ⟨_, k3⟩
          · exact ho _ k3
          · omega
      · right
        have : i = row.length := by omega
        subst this
        rw [List.take_length] at A
        refine ⟨(.ex0 s, hL sl2), ?_, sl2, s, o, rfl, A⟩
        unfold arrival_Trace.loop1
        try simp -implicitDefEqProofs only []
        rw [hlen, decide_eq_false (by omega), cond_false]) FUEL ((⟨.nil, 0, 0, false⟩, 0), hL sl) ⟨0, _, sl, none, rfl, Nat.zero_le _, Acc.nil, fun _ _ => rfl, fun j e => (by cases e), Nat.le_refl _⟩ (fuel_gt (by simp only [Int.toNat_zero]; omega))
  obtain ⟨sl2, s, o, rfl, A⟩ := hp
  exact ⟨sl2, s, o, hq, A⟩
theorem res_keys {h : H} {s : SV} {ks : List Ky} {e : Int} (hs : rdRow false h KC s = some ks) : rdRes false h (.many [.leaf (.row KC), .leaf (.int .i64)]) (Res.un (.many [.leaf .slice, .leaf (.int .i64)]) (s, e)) = some (ks, e) := by
  have g : rdRow false h KC ⟨s.a, s.len, s.cap, s.tail⟩ = some ks := hs
  try simp -implicitDefEqProofs only [evs, reduceIte, rdRes, rdTT, rdTy, rdLT, Res.un, TT.un, Ty.un, LT.un, Leaf.un, Leaf.plain, LT.plain, g]
theorem Trace_ok (l : List Fct) (k : Ky) (hl : checkL l = 0 → l.length ≤ 19) : arrival_TraceP l k = some (traceF l k) := by
  obtain ⟨k0, k1, k2⟩ := k
  unfold arrival_TraceP arrival_Trace traceF
  by_cases he : checkL l = 0
  · have hsm := checkL_small he
    obtain ⟨slR, s3, s4, p1, R⟩ := read_ok (hl he) hsm (a0 := rowSV false FC l) (fun h => row_facts) []
    obtain ⟨Rlen, Rold, Rcnt, ⟨lo, E, hlo, F⟩, _⟩ := R
    simp only [List.length_nil, Nat.zero_add] at p1 F
    have hrow := F.look (k0, k1, k2) ⟨.nil, 0, 0, false⟩
    have hlen : (corF (cntF (onceF l)) (cntF (onceF l)) (k0, k1, k2)).length ≤ 2 ^ 20 := by
      have h1 := cntF_len (onceF l)
      have h2 := onceF_len l
      have h3 := hl he
      exact len_filter _ _ _ (by omega)
    rw [if_pos he]
    have kk : rdT KeyT H.empty (.lp true [.int .i64 k0, .int .i64 k1, .int .i64 k2] 0) = some (k0, k1, k2) := rfl
    try simp -implicitDefEqProofs only [hL_empty, row_facts, Option.bind_some, checkP_ok, he, eq_self, decide_true, Bool.not_true, cond_false, hL_reserve, List.replicate, List.append_nil]
    rw [p1, Option.bind_some]
    rw [hL_empty] at kk
    simp only [kk, Option.bind_some]
    rcases hrow with ⟨h0, hlook⟩ | ⟨id, hne, hlook, hcell, _⟩
    · rw [hlook]
      obtain ⟨sl2, s, o, e1, A⟩ := trace_loop (x8 := ⟨.nil, 0, 0, false⟩) (sl := slR) (row := []) rfl (.inl rfl) (by simp)
      simp only [Option.bind_some, e1]
      rw [h0]
      exact res_keys (A.read rfl)
    · rw [hlook]
      obtain ⟨sl2, s, o, e1, A⟩ := trace_loop (x8 := ownSV id FC (corF (cntF (onceF l)) (cntF (onceF l)) (k0, k1, k2)).length) (sl := slR) (row := corF (cntF (onceF l)) (cntF (onceF l)) (k0, k1, k2)) rfl (.inr ⟨id, rfl, hcell⟩) hlen
      simp only [Option.bind_some, e1]
      exact res_keys (A.read rfl)
  · rw [if_neg he]
    try simp -implicitDefEqProofs only [hL_empty, row_facts, Option.bind_some, checkP_ok, decide_eq_false he, Bool.not_false, cond_true]
    exact res_keys rdRow_nil
def makeF (x : Fct) : Fct × Int := if checkF x = 0 then (if (targetF x).2 = true then (x, 0) else (zeroF, 1)) else (zeroF, 1)
def corrOf (own target : Ky) (f : Fct) : Fct := (own.1, own.2.1, own.2.2, 90, [target.1, target.2.1, target.2.2, f.2.2.2.1] ++ f.2.2.2.2.1, f.2.2.2.2.2)
def afterS (sl : List Slot) (at_ : Option Nat) (o : Option Slot) : H :=
  match o with
  | none => hL sl
  | some s => match at_ with
    | none => hL (sl ++ [s])
    | some i => hL (sl.set i s)
theorem put3 {s0 s1 s2 s3 s : Slot} {t : List Slot} : H.put (hL (s0 :: s1 :: s2 :: s3 :: t)) 3 s = hL (s0 :: s1 :: s2 :: s :: t) := by rw [hL_put (by simp only [List.length_cons]; omega)]; rfl
theorem app4 {a b c d : Int} {nums : List Int} {at_ : Option Nat} {sl : List Slot} (hn : nums.length ≤ 2 ^ 20) (hat : ∀ i, at_ = some i → i < sl.length) :
    ∃ s14 o, appendS (hL sl) at_ 1 8 ⟨.lp true [.int .i64 a, .int .i64 b, .int .i64 c, .int .i64 d] 0, 4, 4, false⟩ (cellsL j1 nums) nums.length = some (s14, afterS sl at_ o) ∧
      (∀ lp sl', (∀ s, o = some s → sl'[at_.getD sl.length]? = some s) → rdRow lp (hL sl') j1 s14 = some ([a, b, c, d] ++ nums)) := by
  by_cases h0 : nums.length = 0
  · have : nums = [] := List.eq_nil_of_length_eq_zero h0
    subst this
    refine ⟨⟨.lp true [.int .i64 a, .int .i64 b, .int .i64 c, .int .i64 d] 0, 4, 4, false⟩, none, ?_, fun lp h _ => ?_⟩
    · simp only [appendS, appendV]
      rw [if_pos (show ([] : List Int).length = 0 from rfl)]
      rfl
    · exact rdRow_res (xs := ([a, b, c, d] : List (LT j1))) rfl
  · refine ⟨ownSV (at_.getD sl.length) j1 ([a, b, c, d] ++ nums).length, some (.own (cellsL j1 ([a, b, c, d] ++ nums)) 1), ?_, fun lp h hh => ?_⟩
    · have hc : cellsOf (hL sl) (.slice (.lp true [.int .i64 a, .int .i64 b, .int .i64 c, .int .i64 d] 0) 4 4 false) 1 = some (4, [.int .i64 a, .int .i64 b, .int .i64 c, .int .i64 d]) := rfl
      have hl : ([a, b, c, d] ++ nums).length = 4 + nums.length := by simp; omega
      simp only [appendS, appendV]
      rw [if_neg h0, guardO_pos ⟨by unfold roomCells; omega, by decide⟩, if_neg (by simp), if_pos ⟨trivial, by omega⟩, hc]
      simp only [Option.bind_some]
      cases at_ with
      | none =>
        simp only [newAt, hL_new, hL_next]
        rw [hl]
        rfl
      | some i =>
        simp only [newAt]
        rw [hL_put (hat i rfl), hl]
        rfl
    · exact rdRow_own (e := 1) (hh _ rfl) rfl rfl
theorem made_out {a : LT FS} {x : Fct} : (madeOut a x).1 = if checkF x = 0 then (if (targetF x).2 = true then (a, 0) else (zL, 1)) else (zL, 1) := by
  unfold madeOut
  split
  · split <;> rfl
  · rfl
theorem res_fact {h : H} {a : LT FS} {e : Int} {x : List Int} {y : List ByteArray} (h1 : rdRow false h j1 a.2.2.2.2.1 = some x) (h2 : rdRow false h t1 a.2.2.2.2.2 = some y) :
    rdRes false h (.many [.agg FC, .leaf (.int .i64)]) (Res.un (.many [.agg FS, .leaf (.int .i64)]) (a, e)) = some (fctOf a x y, e) := by
  obtain ⟨a0, a1, a2, a3, a4, a5⟩ := a
  have g1 : rdRow false h j1 ⟨a4.a, a4.len, a4.cap, a4.tail⟩ = some x := h1
  have g2 : rdRow false h t1 ⟨a5.a, a5.len, a5.cap, a5.tail⟩ = some y := h2
  try simp -implicitDefEqProofs only [evs, reduceIte, rdRes, rdTT, rdTy, rdLT, Res.un, TT.un, Ty.un, LT.un, Leaf.un, Leaf.plain, LT.plain, g1, g2]
theorem res_made {h : H} {a : LT FS} {x : Fct} (h1 : rdRow false h j1 a.2.2.2.2.1 = some x.2.2.2.2.1) (h2 : rdRow false h t1 a.2.2.2.2.2 = some x.2.2.2.2.2) (he : fctOf a x.2.2.2.2.1 x.2.2.2.2.2 = x) :
    rdRes false h (.many [.agg FC, .leaf (.int .i64)]) (Res.un (.many [.agg FS, .leaf (.int .i64)]) (madeOut a x).1) = some (makeF x) := by
  rw [made_out]
  unfold makeF
  split
  · split
    · rw [res_fact h1 h2, he]
    · exact res_fact rdRow_nil rdRow_nil
  · exact res_fact rdRow_nil rdRow_nil
theorem Correct_ok (own target : Ky) (f : Fct) (hs : f.2.2.2.2.1.length ≤ 2 ^ 19 ∧ f.2.2.2.2.2.length ≤ 2 ^ 19) : arrival_CorrectP own target f = some (makeF (corrOf own target f)) := by
  obtain ⟨k0, k1, k2⟩ := own
  obtain ⟨t0, t1', t2⟩ := target
  obtain ⟨f0, f1, f2, f3, f4, f5⟩ := f
  obtain ⟨hs1, hs2⟩ := hs
  simp only at hs1 hs2
  obtain ⟨x, hx⟩ : ∃ x, x = corrOf (k0, k1, k2) (t0, t1', t2) (f0, f1, f2, f3, f4, f5) := ⟨_, rfl⟩
  rw [← hx]
  obtain ⟨s14, o, e14, r14⟩ := app4 (a := t0) (b := t1') (c := t2) (d := f3) (nums := f4) (at_ := some 4) (sl := [cKy (k0, k1, k2), cKy (t0, t1', t2), cFt false (f0, f1, f2, f3, f4, f5), .own zF 6, .fresh]) (by omega) (fun i e => by cases e; simp)
  obtain ⟨s4, hs4⟩ : ∃ s4, s4 = o.getD .fresh := ⟨_, rfl⟩
  have e14' : appendS (hL [cKy (k0, k1, k2), cKy (t0, t1', t2), cFt false (f0, f1, f2, f3, f4, f5), .own zF 6, .fresh]) (some 4) 1 8 ⟨.lp true [.int .i64 t0, .int .i64 t1', .int .i64 t2, .int .i64 f3] 0, 4, 4, false⟩ (cellsL j1 f4) f4.length = some (s14, hL [cKy (k0, k1, k2), cKy (t0, t1', t2), cFt false (f0, f1, f2, f3, f4, f5), .own zF 6, s4]) := by
    rw [e14, hs4]
    cases o <;> rfl
  have C1 : ∀ h, cellsOf h (.slice (rowSV false j1 f4).a f4.length f4.length true) 1 = some (f4.length, cellsL j1 f4) := fun h => cellsOf_all (ls := j1) (w := 1) rfl (by omega) rfl
  have c2 : cloneP 16 f5 = some f5 := by unfold cloneP; rw [guardO_pos ⟨by unfold roomCells; omega, by omega⟩]
  have rr : ∀ lp s3 t, rdRow lp (hL ([cKy (k0, k1, k2), cKy (t0, t1', t2), cFt false (f0, f1, f2, f3, f4, f5), s3, s4] ++ t)) j1 s14 = some ([t0, t1', t2, f3] ++ f4) := fun lp s3 t => r14 lp _ fun s e => by rw [hs4, e]; rfl
  have M := freeM_ok (ok := sm) (a := (k0, k1, k2, 90, s14, rowSV true t1 f5)) (sl := [cKy (k0, k1, k2), cKy (t0, t1', t2), cFt false (f0, f1, f2, f3, f4, f5), .own zF 6, s4]) (e := [t0, t1', t2, f3] ++ f4) (g := f5) (by have := rr true (.own zF 6) []; rw [List.append_nil] at this; exact this) (rdRow_res rfl) (by
    simp only [sm, Bool.and_eq_true, decide_eq_true_eq, List.length_append, List.length_cons, List.length_nil]
    omega)
  have hfx : fctOf (k0, k1, k2, 90, s14, rowSV true t1 f5) ([t0, t1', t2, f3] ++ f4) f5 = x := by rw [hx]; rfl
  rw [hfx] at M
  obtain ⟨news, hnews⟩ : ∃ news, news = (madeOut (k0, k1, k2, 90, s14, rowSV true t1 f5) x).2.map fun c => Slot.own c 6 := ⟨_, rfl⟩
  obtain ⟨⟨res, err⟩, hres⟩ : ∃ res, res = (madeOut (k0, k1, k2, 90, s14, rowSV true t1 f5) x).1 := ⟨_, rfl⟩
  rw [← hnews, ← hres] at M
  have hmk := fun (h : H) (q1 : rdRow false h j1 s14 = some ([t0, t1', t2, f3] ++ f4)) => res_made (h := h) (a := (k0, k1, k2, 90, s14, rowSV true t1 f5)) (x := x) (by rw [hx]; exact q1) (by rw [hx]; exact rdRow_res rfl) (by rw [hx]; rfl)
  rw [← hres] at hmk
  have W : H.wrs (hL ([cKy (k0, k1, k2), cKy (t0, t1', t2), cFt false (f0, f1, f2, f3, f4, f5), .own zF 6, s4] ++ news)) (.hp 3 6 0) (cA res) = some (hL ([cKy (k0, k1, k2), cKy (t0, t1', t2), cFt false (f0, f1, f2, f3, f4, f5), .own (cA res) 6, s4] ++ news)) := by
    rw [wr_all (e := 6) (cs := zF) (g := 6) (by rfl) rfl rfl, set_app (by simp)]
    rfl
  have RD : rdT (.agg FS) (hL ([cKy (k0, k1, k2), cKy (t0, t1', t2), cFt false (f0, f1, f2, f3, f4, f5), .own (cA res) 6, s4] ++ news)) (.hp 3 6 0) = some res := by
    rw [rds_hp (by simp), hL_m]; rfl
  have R5 : ∀ sl, rdRow true (hL sl) [Leaf.str] ⟨(rowSV false t1 f5).a, f5.length, f5.length, true⟩ = some f5 := fun sl => row_texts
  have M' : madeFree (k0, k1, k2, 90, s14, rowSV true [Leaf.str] f5) (hL [cKy (k0, k1, k2), cKy (t0, t1', t2), cFt false (f0, f1, f2, f3, f4, f5), .own zF 6, s4]) = some ((res, err), hL ([cKy (k0, k1, k2), cKy (t0, t1', t2), cFt false (f0, f1, f2, f3, f4, f5), .own zF 6, s4] ++ news)) := M
  have G : ∀ A : V, (A = .hp 0 3 0 ∨ A = .hp 2 6 5) → (apartA A (appAddr (.slice (.lp true [.int .i64 t0, .int .i64 t1', .int .i64 t2, .int .i64 f3] 0) 4 4 false) (.slice (rowSV false [Leaf.int .i64] f4).a f4.length f4.length true) (some 4)) = true) = True ∧ (apartA (appAddr (.slice (.lp true [.int .i64 t0, .int .i64 t1', .int .i64 t2, .int .i64 f3] 0) 4 4 false) (.slice (rowSV false [Leaf.int .i64] f4).a f4.length f4.length true) (some 4)) A = true) = True := by
    rintro A (rfl | rfl) <;> cases f4 <;> exact ⟨eq_true rfl, eq_true rfl⟩
  unfold arrival_CorrectP arrival_Correct
  try simp -implicitDefEqProofs only [evs, reduceIte, rdRes, rdTT, rdTy, rdLT, Res.un, TT.un, Ty.un, LT.un, Leaf.un, Leaf.plain, LT.plain, evh, List.replicate, splice, LT.pack, Leaf.pack, Nat.reduceAdd, Nat.reduceSub, Nat.reduceLeDiff, Nat.reduceLT, Nat.reduceEqDiff, LT.lo, Leaf.lo, Option.bind_some, hL_reserve, List.append_nil, e14', C1, c2, rr, R5, M', put3, (G _ (.inl rfl)).1, (G _ (.inr rfl)).2, guardO_true]
  have K := hmk _ (rr false (.own (cA res) 6) news)
  simp -implicitDefEqProofs only [evs, reduceIte, rdRes, rdTT, rdTy, rdLT, Res.un, TT.un, Ty.un, LT.un, Leaf.un, Leaf.plain, LT.plain] at K
  exact K
noncomputable def corrC (own target : Ky) (f : Fct) : Option (Fct × Int) := if f.2.2.2.2.1.length ≤ 2 ^ 19 ∧ f.2.2.2.2.2.length ≤ 2 ^ 19 then some (makeF (corrOf own target f)) else arrival_CorrectP own target f
theorem corrC_eq : arrival_CorrectP = corrC := by
  funext o t f
  unfold corrC
  split
  · exact Correct_ok o t f ‹_›
  · rfl
noncomputable def mergeC (l : List Fct) : Option ((List Fct × List Ky × List Ky × List Ky) × Int) := if checkL l = 0 → l.length ≤ 19 then some (mergeF l) else arrival_MergeP l
theorem mergeC_eq : arrival_MergeP = mergeC := by
  funext l
  unfold mergeC
  split
  · exact Merge_ok l ‹_›
  · rfl
noncomputable def traceC (l : List Fct) (k : Ky) : Option (List Ky × Int) := if checkL l = 0 → l.length ≤ 19 then some (traceF l k) else arrival_TraceP l k
theorem traceC_eq : arrival_TraceP = traceC := by
  funext l k
  unfold traceC
  split
  · exact Trace_ok l k ‹_›
  · rfl
theorem awake_ok : law_awakeP = some true := by
  delta law_awakeP law_awake
  generalize hc : arrival_CorrectP = c
  rw [corrC_eq] at hc
  subst hc
  generalize hc : arrival_MergeP = c
  rw [mergeC_eq] at hc
  subst hc
  generalize hc : arrival_TraceP = c
  rw [traceC_eq] at hc
  subst hc
  kernel_rfl
theorem max63 : maxLen < 2 ^ 63 := by decide
theorem okT {x : Fct} (h : LT.ok FC x) : x.2.2.2.2.2.length < 2 ^ 63 := by
  obtain ⟨_, _, _, _, _, h⟩ := h
  exact Nat.lt_of_le_of_lt h.1 max63
theorem okL {l : List Fct} (h : (Leaf.row FC).ok l) : l.length < 2 ^ 63 ∧ ∀ x ∈ l, x.2.2.2.2.2.length < 2 ^ 63 := ⟨Nat.lt_of_le_of_lt h.1 max63, fun x hx => okT (h.2 x hx)⟩
theorem cmpF_self (x : Fct) : cmpF x x = 0 := cmpF_to.refl x
theorem once_small {l : List Fct} (h : ∀ x ∈ l, smallF x) : ∀ x ∈ onceF l, smallF x := fun x hx => h x (onceF_mem.1 hx)
abbrev slV (s : SV) : V := .slice s.a s.len s.cap s.tail
def Holds (lo : Nat) (sl : List Slot) (xs : List Fct) (s : SV) : Prop :=
  (xs = [] ∧ (s = nilSV ∨ s = ⟨.lp true [] 0, 0, 0, false⟩)) ∨
  (xs ≠ [] ∧ ∃ id n rest, s = sQ id n xs.length n true ∧ xs.length ≤ n ∧ lo ≤ id ∧ sl[id]? = some (.own (cellsL FC xs ++ rest) 6) ∧ (cellsL FC xs ++ rest).length = n * 6)
theorem Holds.len {lo : Nat} {sl : List Slot} {xs : List Fct} {s : SV} (h : Holds lo sl xs s) : s.len = xs.length := by
  rcases h with ⟨rfl, rfl | rfl⟩ | ⟨_, id, n, rest, rfl, _⟩ <;> rfl
theorem Holds.frame {lo : Nat} {sl sl' : List Slot} {xs : List Fct} {s : SV} (h : Holds lo sl xs s) (hf : ∀ j, lo ≤ j → j < sl.length → sl'[j]? = sl[j]?) : Holds lo sl' xs s := by
  rcases h with h | ⟨h0, id, n, rest, h1, h2, h3, h4, h5⟩
  · exact .inl h
  · exact .inr ⟨h0, id, n, rest, h1, h2, h3, by rw [hf id h3 (List.getElem?_eq_some_iff.1 h4).1, h4], h5⟩
theorem Holds.read {lo : Nat} {lp : Bool} {sl : List Slot} {xs : List Fct} {s : SV} (h : Holds lo sl xs s) : rdRow lp (hL sl) FC s = some xs := by
  rcases h with ⟨rfl, rfl | rfl⟩ | ⟨_, id, n, rest, rfl, _, _, h4, h5⟩
  · exact rdRow_nil
  · exact rdRow_nil
  · exact rd_prefix h4 h5
theorem Holds.at_ {lo : Nat} {sl : List Slot} {xs : List Fct} {s : SV} (h : Holds lo sl xs s) {i : Nat} {x : Fct} (hi : xs[i]? = some x) : rdT (.agg FS) (hL sl) (V.add s.a (i * 6)) = some (low true x) := by
  obtain ⟨hl, hx⟩ := List.getElem?_eq_some_iff.1 hi
  rcases h with ⟨rfl, _⟩ | ⟨_, id, n, rest, rfl, hn, _, h4, h5⟩
  · cases hi
  · rw [sQ_a, add_hpQ, rds_hp (by simp), hL_m, h4]
    simp only [Option.getD_some]
    have hc : (cellsL FC xs).length = xs.length * 6 := flat_length (ls := FC) xs
    have hd : (cellsL FC xs).drop (i * 6) = cellsL FC (xs.drop i) := flat_drop (ls := FC) xs i
    rw [if_pos ⟨h5, by rw [h5]; show 6 ≤ _; omega⟩, List.drop_append_of_le_length (by rw [hc]; omega), hd, List.drop_eq_getElem_cons hl]
    show LT.pack FS (List.take 6 (List.flatMap _ (xs[i] :: _) ++ rest)) = _
    rw [List.flatMap_cons, List.append_assoc, List.take_left' (show (LT.lo true FC xs[i]).length = 6 from rfl), hx]
    rfl
theorem once_empty {l : List Fct} : onceF l = [] ↔ l = [] := by
  constructor
  · intro h
    cases l with
    | nil => rfl
    | cons x l => have : x ∈ onceF (x :: l) := onceF_mem.2 (by simp); rw [h] at this; cases this
  · rintro rfl; rfl
theorem set_at {a : SV} (l : List Fct) (hl : l.length ≤ 19) (hs : ∀ x ∈ l, smallF x) (sl0 : List Slot) (ha : a.len = l.length)
    (hsrc : ∀ i (hi : i < l.length) (sl : List Slot), (∀ j, j < sl0.length → sl[j]? = sl0[j]?) → ∃ f, rdT (.agg FS) (hL sl) (V.add a.a (i * 6)) = some (low f l[i])) :
    ∃ s sl, arrival_set a (hL sl0) = some (s, hL sl) ∧ Holds sl0.length sl (onceF l) s ∧ ∀ j, j < sl0.length → sl[j]? = sl0[j]? := by
  obtain ⟨sl, s, o, h1, hacc, old, ho⟩ := Sort_at l hl hs sl0 ha hsrc
  unfold arrival_set
  rw [h1, Option.bind_some]
  simp only
  cases o with
  | none =>
    obtain ⟨h2, hs⟩ := hacc
    have hlen : s.len = 0 := by rcases hs with rfl | rfl <;> rfl
    have : slices_CompactFunc_F2 arrival_set.tb s (.func 70 []) (hL sl) = some (s, hL sl) := by
      unfold slices_CompactFunc_F2
      rw [hlen]
      rfl
    rw [this]
    exact ⟨s, sl, rfl, .inl ⟨by unfold onceF; rw [h2]; rfl, hs⟩, old⟩
  | some id =>
    obtain ⟨h2, rfl, h4⟩ := hacc
    have hpl : (sortF l).length = l.length := sortB_perm.length_eq
    have hid := (List.getElem?_eq_some_iff.1 h4).1
    obtain ⟨s', sl', rest, k1, rfl, k3, k4, k5⟩ := Compact_ok (T := arrival_set.tb) (sl := sl) (id := id) (N := (sortF l).length) (xs := sortF l) hid rfl rfl (by omega) h2 (fun x hx => small_ok (hs x (sortB_perm.mem_iff.1 hx)))
    rw [hQ_self (e := 6) h4] at k1
    have k1' : slices_CompactFunc_F2 arrival_set.tb (ownSV id FC (sortF l).length) (.func 70 []) (hL sl) = some (sQ id (sortF l).length (onceF l).length (sortF l).length true, hL sl') := k1
    rw [k1', Option.bind_some]
    refine ⟨_, _, rfl, .inr ⟨fun e => ?_, id, (sortF l).length, rest, rfl, ?_, ho id rfl, k3, k4⟩, fun j hj => ?_⟩
    · have := once_empty.1 e
      rw [this] at h2
      exact absurd h2 (by decide)
    · rw [hpl]; exact onceF_len l
    · rw [k5, List.getElem?_set_ne (by have := ho id rfl; omega), old j hj]

end Go.Proofs.YtjkjcnadgpndoaaGreat
