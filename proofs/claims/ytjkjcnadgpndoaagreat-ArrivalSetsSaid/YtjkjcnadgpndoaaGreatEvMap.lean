/- Maps whose keys are numbers, texts or rows of numbers: what the model's operations on them give. Conditions: none. -/
import Derived.Test.YtjkjcnadgpndoaaGreatEvOps
namespace Go.Proofs.YtjkjcnadgpndoaaGreat.Ev
open Go Go.RowKit
set_option linter.unusedVariables false
set_option linter.unusedSimpArgs false
variable {P : Program} {ρ : Ren}
theorem entriesG_toList {us : List (Value × Value)} : (entriesG us).toList = us.zipIdx.map fun p => entryG p.1 p.2 := by simp [entriesG]
theorem entriesG_get {us : List (Value × Value)} {i : Nat} : (entriesG us)[i]? = (us[i]?).map fun p => entryG p i := by
  rw [← Array.getElem?_toList, entriesG_toList, List.getElem?_map, List.getElem?_zipIdx]
  cases us[i]? <;> simp
theorem entriesG_size {us : List (Value × Value)} : (entriesG us).size = us.length := by simp [entriesG]
theorem entriesG_push {us : List (Value × Value)} {k v : Value} : (entriesG us).push { key := k, val := v, born := us.length } = entriesG (us ++ [(k, v)]) := by
  apply Array.ext'
  rw [Array.toList_push, entriesG_toList, entriesG_toList, List.zipIdx_append, List.map_append]
  simp [entryG]
theorem entriesG_modify {us : List (Value × Value)} {i : Nat} {f : MapEntry → MapEntry} {g : Value × Value → Value × Value} (hf : ∀ p, f (entryG p i) = entryG (g p) i) : (entriesG us).modify i f = entriesG (us.modify i g) := by
  apply Array.ext'
  rw [entriesG_toList, Array.toList_modify, entriesG_toList]
  refine List.ext_getElem? fun j => ?_
  simp only [List.getElem?_modify, List.getElem?_map, List.getElem?_zipIdx]
  by_cases hj : i = j
  · subst hj
    cases us[i]? with
    | none => simp
    | some p => simp [hf]
  · cases us[j]? <;> simp [hj]
def Leaf.kval : (l : Leaf) → l.C → Value
  | .int k, n => .int k n
  | .str, s => .string s
  | _, _ => .nilFunc
def LT.kvals : (ls : List Leaf) → LT ls → List Value
  | [], _ => []
  | [l], x => [l.kval x]
  | l :: l' :: ls, x => l.kval x.1 :: LT.kvals (l' :: ls) x.2
def Ty.kval : (t : Ty) → t.C → Value
  | .leaf l, x => l.kval x
  | .agg ls, x => .agg (LT.kvals ls x).toArray
inductive KeyForm (P : Program) (a : TypeId) : Ty → Prop where
  | int (k : IntKind) (h : P.underlying a = some (.int k)) : KeyForm P a (.leaf (.int k))
  | str (h : P.underlying a = some .string) : KeyForm P a (.leaf .str)
  | row (fs : Array Field) (ls : List Leaf) (h : P.underlying a = some (.struct fs)) (hst : P.stoodInHeld a = false)
      (hfs : ∀ p ∈ fs.toList.zipIdx, p.1.offset = p.2 ∧ p.1.name ≠ "_" ∧ (intKindOf P p.1.type).isSome = true) (hl : fs.toList.length = ls.length) (hi : ls.all Leaf.isInt = true) : KeyForm P a (.agg ls)
theorem keyTy_form {a : TypeId} {kt : Ty} (h : keyTy P a = some kt) : KeyForm P a kt := by
  unfold keyTy at h
  split at h
  · rename_i k hu
    cases h
    exact .int k hu
  · rename_i hu
    cases h
    exact .str hu
  · rename_i fs hu
    split at h
    · rename_i bs ls hb ht
      cases hc : ((bs.all fun b => !b) && Nat.beq bs.length ls.length && ls.all Leaf.isInt) with
      | false => rw [hc] at h; cases h
      | true =>
        rw [hc] at h
        cases h
        simp only [Bool.and_eq_true] at hc
        obtain ⟨⟨h1, h2⟩, h3⟩ := hc
        unfold flatInts at hb
        rw [hu] at hb
        simp only at hb
        cases hd : (!(P.stoodInHeld a) && (fs.toList.zipIdx.all fun (f, i) => f.offset == i && f.name != "_" && ((intKindOf P f.type).isSome || isBool P f.type))) with
        | false => rw [hd] at hb; cases hb
        | true =>
          rw [hd] at hb
          cases hb
          simp only [Bool.and_eq_true, Bool.not_eq_true', List.all_eq_true] at hd
          obtain ⟨d1, d2⟩ := hd
          refine .row fs ls hu d1 (fun p hp => ?_) (by simpa using h2) h3
          have := d2 p hp
          simp only [Bool.and_eq_true, beq_iff_eq, bne_iff_ne, Bool.or_eq_true] at this
          refine ⟨this.1.1, this.1.2, ?_⟩
          rcases this.2 with e | e
          · exact e
          · have hm : p.1 ∈ fs.toList := by
              obtain ⟨i, hi, he⟩ := List.mem_iff_getElem.1 hp
              rw [← he]
              simp
            have := List.all_eq_true.1 h1 (isBool P p.1.type) (List.mem_map.2 ⟨p.1, hm, rfl⟩)
            rw [e] at this
            cases this
    · cases h
  · cases h
theorem kvals_R : ∀ (ls : List Leaf) (x : LT ls) (us : List Value), ls.all Leaf.isInt = true → RC ρ (LT.un ls x) us → us = LT.kvals ls x
  | [], x, us, _, h => by simpa [LT.un, RC, LT.kvals] using h
  | [l], x, us, hi, h => by
    cases l <;> simp [Leaf.isInt] at hi
    simp only [LT.un, Leaf.un, RC] at h
    obtain ⟨u, us', rfl, _, h1, rfl⟩ := h
    rw [R_int] at h1
    simp [LT.kvals, Leaf.kval, h1]
  | l :: l' :: ls, x, us, hi, h => by
    simp only [List.all_cons, Bool.and_eq_true] at hi
    obtain ⟨hi1, hi2⟩ := hi
    cases l <;> simp [Leaf.isInt] at hi1
    simp only [LT.un, Leaf.un, RC] at h
    obtain ⟨u, us', rfl, _, h1, h2⟩ := h
    rw [R_int] at h1
    rw [kvals_R (l' :: ls) x.2 us' (by simpa using hi2) h2]
    simp [LT.kvals, Leaf.kval, h1]
theorem key_R {a : TypeId} {kt : Ty} (hf : KeyForm P a kt) {x : kt.C} {u : Value} (h : R ρ (kt.un x) u) : u = kt.kval x := by
  cases hf with
  | int k _ => exact R_int.1 h
  | str _ => exact R_str.1 h
  | row fs ls _ _ _ _ hi =>
    simp only [Ty.un, R] at h
    obtain ⟨us, rfl, h2⟩ := h
    rw [kvals_R ls x us hi h2]
    rfl
theorem kvals_len : ∀ (ls : List Leaf) (x : LT ls), (LT.kvals ls x).length = ls.length
  | [], _ => rfl
  | [l], _ => rfl
  | l :: l' :: ls, x => by simp [LT.kvals, kvals_len (l' :: ls) x.2]
theorem rowEq : ∀ (ls : List Leaf) (x y : LT ls), ls.all Leaf.isInt = true → LT.keyEq ls x y = true → x = y
  | [], _, _, _, _ => rfl
  | [l], x, y, hi, h => by
    cases l <;> simp [Leaf.isInt] at hi
    simpa [LT.keyEq, Leaf.keyEq] using h
  | l :: l' :: ls, x, y, hi, h => by
    simp only [List.all_cons, Bool.and_eq_true] at hi
    obtain ⟨hi1, hi2⟩ := hi
    cases l <;> simp [Leaf.isInt] at hi1
    simp only [LT.keyEq, Leaf.keyEq, Bool.and_eq_true, decide_eq_true_eq] at h
    exact Prod.ext h.1 (rowEq (l' :: ls) x.2 y.2 (by simpa using hi2) h.2)
theorem keyEq_eq {a : TypeId} {kt : Ty} (hf : KeyForm P a kt) {x y : kt.C} (h : kt.keyEq x y = true) : x = y := by
  cases hf with
  | int k _ => simpa [Ty.keyEq, Leaf.keyEq] using h
  | str _ => simpa [Ty.keyEq, Leaf.keyEq] using h
  | row fs ls _ _ _ _ hi => exact rowEq ls x y hi h
theorem eqInts_row : ∀ (ls : List Leaf) (x y : LT ls), ls.all Leaf.isInt = true → eqInts (LT.un ls x) (LT.un ls y) = some (LT.keyEq ls x y)
  | [], _, _, _ => rfl
  | [l], x, y, hi => by
    cases l <;> simp [Leaf.isInt] at hi
    simp [LT.un, Leaf.un, eqInts, LT.keyEq, Leaf.keyEq]
  | l :: l' :: ls, x, y, hi => by
    simp only [List.all_cons, Bool.and_eq_true] at hi
    obtain ⟨hi1, hi2⟩ := hi
    cases l <;> simp [Leaf.isInt] at hi1
    have ih := eqInts_row (l' :: ls) x.2 y.2 (by simpa using hi2)
    have hne : ∃ v vs, LT.un (l' :: ls) x.2 = v :: vs := by cases ls <;> simp [LT.un]
    have hne2 : ∃ v vs, LT.un (l' :: ls) y.2 = v :: vs := by cases ls <;> simp [LT.un]
    obtain ⟨v, vs, e1⟩ := hne
    obtain ⟨v2, vs2, e2⟩ := hne2
    simp only [LT.un, Leaf.un, LT.keyEq, Leaf.keyEq]
    rw [e1, e2] at ih ⊢
    simp [eqInts, ih]
theorem row_RC : ∀ (ls : List Leaf) (x : LT ls), ls.all Leaf.isInt = true → RC ρ (LT.un ls x) (LT.kvals ls x)
  | [], _, _ => by simp [LT.un, LT.kvals, RC]
  | [l], x, hi => by
    cases l <;> simp [Leaf.isInt] at hi
    simp only [LT.un, Leaf.un, LT.kvals, Leaf.kval, RC]
    exact ⟨_, _, rfl, rfl, R_int.2 rfl, rfl⟩
  | l :: l' :: ls, x, hi => by
    simp only [List.all_cons, Bool.and_eq_true] at hi
    obtain ⟨hi1, hi2⟩ := hi
    cases l <;> simp [Leaf.isInt] at hi1
    simp only [LT.un, Leaf.un, LT.kvals, Leaf.kval, RC]
    exact ⟨_, _, rfl, rfl, R_int.2 rfl, row_RC (l' :: ls) x.2 (by simpa using hi2)⟩
theorem row_fits : ∀ (ls : List Leaf) (bs : List Bool) (x : LT ls), ls.all Leaf.isInt = true → bs.length = ls.length → (∀ b ∈ bs, b = false) → fits bs (LT.un ls x) = true
  | [], bs, _, _, hl, _ => by
    cases bs with
    | nil => rfl
    | cons _ _ => simp at hl
  | [l], bs, x, hi, hl, hb => by
    cases l <;> simp [Leaf.isInt] at hi
    match bs, hl with
    | [b], _ => rw [hb b (by simp)]; rfl
  | l :: l' :: ls, bs, x, hi, hl, hb => by
    simp only [List.all_cons, Bool.and_eq_true] at hi
    obtain ⟨hi1, hi2⟩ := hi
    cases l <;> simp [Leaf.isInt] at hi1
    match bs, hl with
    | b :: bs, hl =>
      rw [hb b (by simp)]
      simp only [LT.un, Leaf.un, fits]
      exact row_fits (l' :: ls) bs x.2 (by simpa using hi2) (by simpa using hl) fun c hc => hb c (by simp [hc])
/-! The key is sought -/
theorem text_beq (x y : ByteArray) : (x == y) = decide (x = y) := by
  cases x with | mk a => cases y with | mk b =>
  have : ((⟨a⟩ : ByteArray) == ⟨b⟩) = (a == b) := rfl
  rw [this, Bool.eq_iff_iff, beq_iff_eq, decide_eq_true_iff, ByteArray.mk.injEq]
theorem findNow_g {β : Type} {kt : Ty} {kind : TypeDesc} (x : kt.C) (hs : ∀ y : kt.C, Instr.sameNow kind (kt.kval x) (kt.kval y) = some (kt.keyEq x y)) : ∀ (l : List (kt.C × β)) (us : List (Value × Value)) (b j : Nat), us.map (·.1) = l.map (fun p => kt.kval p.1) →
    Instr.findNow kind (kt.kval x) ((us.zipIdx b).map fun p => entryG p.1 p.2) j = some ((placeG kt x l).map fun i => (j + i, ((us[i]?).map (·.2)).getD .nilFunc))
  | [], us, b, j, hk => by
    have : us = [] := by simpa using hk
    subst this
    rfl
  | p :: l, [], b, j, hk => by simp at hk
  | p :: l, u :: us, b, j, hk => by
    simp only [List.map_cons, List.cons.injEq] at hk
    obtain ⟨h1, h2⟩ := hk
    simp only [List.zipIdx_cons, List.map_cons, Instr.findNow, entryG, h1, hs, placeG]
    cases kt.keyEq x p.1 with
    | true => simp
    | false =>
      simp only [cond_false]
      have ih := findNow_g x hs l us (b + 1) (j + 1) h2
      simp only [entryG] at ih
      rw [ih]
      cases placeG kt x l <;> simp [Nat.add_assoc, Nat.add_comm, Nat.add_left_comm]
theorem findAsking_g {β : Type} {kt : Ty} {a : TypeId} (x : kt.C) (w : World) (hs : ∀ y : kt.C, (Op.equal a (kt.kval x) (kt.kval y)).run P w = .ok (kt.keyEq x y) w) : ∀ (l : List (kt.C × β)) (us : List (Value × Value)) (b j : Nat), us.map (·.1) = l.map (fun p => kt.kval p.1) →
    (Instr.findAsking a (kt.kval x) ((us.zipIdx b).map fun p => entryG p.1 p.2) j).run P w = .ok ((placeG kt x l).map fun i => (j + i, ((us[i]?).map (·.2)).getD .nilFunc)) w
  | [], us, b, j, hk => by
    have : us = [] := by simpa using hk
    subst this
    simp [Instr.findAsking, placeG]
  | p :: l, [], b, j, hk => by simp at hk
  | p :: l, u :: us, b, j, hk => by
    simp only [List.map_cons, List.cons.injEq] at hk
    obtain ⟨h1, h2⟩ := hk
    have ih := findAsking_g x w hs l us (b + 1) (j + 1) h2
    simp only [List.zipIdx_cons, List.map_cons, Instr.findAsking, entryG, h1, Sem.run_bind, hs, Result.andThen_ok, placeG]
    cases kt.keyEq x p.1 with
    | true => simp
    | false =>
      simp only [entryG] at ih
      simp only [cond_false, Bool.false_eq_true, if_false, ih]
      cases placeG kt x l <;> simp [Nat.add_assoc, Nat.add_comm, Nat.add_left_comm]
theorem run_equal_row {a : TypeId} {fs : Array Field} {ls : List Leaf} (hu : P.underlying a = some (.struct fs)) (hst : P.stoodInHeld a = false) (hfs : ∀ p ∈ fs.toList.zipIdx, p.1.offset = p.2 ∧ p.1.name ≠ "_" ∧ (intKindOf P p.1.type).isSome = true) (hl : fs.toList.length = ls.length) (hi : ls.all Leaf.isInt = true) (x y : LT ls) (w : World) :
    (Op.equal a (.agg (LT.kvals ls x).toArray) (.agg (LT.kvals ls y).toArray)).run P w = .ok (LT.keyEq ls x y) w := by
  have hb : ∀ f ∈ fs.toList, isBool P f.type = false := fun f hf => by
    obtain ⟨i, hi, rfl⟩ := List.mem_iff_getElem.1 hf
    have := (hfs (fs.toList[i], i) (by rw [List.mem_zipIdx_iff_getElem?]; simp [hi])).2.2
    obtain ⟨k, hk⟩ := Option.isSome_iff_exists.1 this
    unfold isBool
    rw [intKind_of hk]
  have gen : ∀ d, (Op.equalIn (d + 2) a (.agg (LT.kvals ls x).toArray) (.agg (LT.kvals ls y).toArray)).run P w = .ok (LT.keyEq ls x y) w := fun d => by
    have hfo : P.fieldsOf a = fs := by simp [Program.fieldsOf, hu]
    rw [run_equalIn_struct w (d + 1) a _ _ (by rw [hfo]; exact hu) hst, hfo]
    have hbs : ∀ b ∈ fs.toList.map (fun f => isBool P f.type), b = false := fun b hm => by
      obtain ⟨f, hf, rfl⟩ := List.mem_map.1 hm
      exact hb f hf
    have := eqFields_ints (ρ := ⟨fun _ _ => none, fun _ _ _ _ => False, fun _ => False, fun _ => none⟩) (P := P) d fs.toList 0 (LT.un ls x) (LT.un ls y) (LT.kvals ls x) (LT.kvals ls y) (LT.keyEq ls x y) w
      (fun p hp => by obtain ⟨h1, h2, h3⟩ := hfs p hp; exact ⟨h1, h2, by rw [h3]; rfl⟩) (row_RC ls x hi) (row_RC ls y hi) (row_fits ls _ x hi (by simpa using hl) hbs) (row_fits ls _ y hi (by simpa using hl) hbs) (eqInts_row ls x y hi) [] [] rfl rfl
    simpa using this
  exact gen 9998
theorem run_findG {β : Type} {a : TypeId} {kt : Ty} (hf : KeyForm P a kt) (x : kt.C) (l : List (kt.C × β)) (us : List (Value × Value)) (hk : us.map (·.1) = l.map (fun p => kt.kval p.1)) (w : World) :
    (Instr.findKey a (kt.kval x) (entriesG us).toList).run P w = .ok ((placeG kt x l).map fun i => (i, ((us[i]?).map (·.2)).getD .nilFunc)) w := by
  unfold Instr.findKey
  rw [entriesG_toList]
  cases hf with
  | int k hu =>
    have := findNow_g (kt := .leaf (.int k)) (kind := .int k) x (fun y => by simp [Ty.kval, Leaf.kval, Instr.sameNow, Ty.keyEq, Leaf.keyEq]; rfl) l us 0 0 hk
    simp only [Sem.run_bind, run_underlying hu, Result.andThen_ok, this, Sem.run_pure, Nat.zero_add]
  | str hu =>
    have := findNow_g (kt := .leaf .str) (kind := .string) x (fun y => by
      exact congrArg some (text_beq x y)) l us 0 0 hk
    simp only [Sem.run_bind, run_underlying hu, Result.andThen_ok, this, Sem.run_pure, Nat.zero_add]
  | row fs ls hu hst hfs hl hi =>
    cases us with
    | nil =>
      have : l = [] := by simpa using hk.symm
      subst this
      simp [run_underlying hu, Instr.findNow, placeG]
    | cons u us =>
      have hn : Instr.findNow (.struct fs) (Ty.kval (.agg ls) x) (((u :: us).zipIdx).map fun p => entryG p.1 p.2) 0 = none := by
        simp only [List.zipIdx_cons, List.map_cons, Instr.findNow]
        have : Instr.sameNow (.struct fs) (Ty.kval (.agg ls) x) (entryG u 0).key = none := by
          simp [Ty.kval, Instr.sameNow]
        rw [this]
      simp only [Sem.run_bind, run_underlying hu, Result.andThen_ok, hn]
      have := findAsking_g (P := P) (kt := .agg ls) (a := a) x w (fun y => run_equal_row hu hst hfs hl hi x y w) l (u :: us) 0 0 hk
      simpa using this
theorem run_forIn_list {β : Type} (f : β → Sem (ForInStep PUnit)) (w : World) : ∀ l : List β, (∀ x ∈ l, (f x).run P w = .ok (.yield ⟨⟩) w) → (forIn l PUnit.unit (fun x _ => f x)).run P w = .ok ⟨⟩ w
  | [], _ => by simp
  | x :: l, h => by
    rw [List.forIn_cons]
    simp only [Sem.run_bind, h x (by simp), Result.andThen_ok]
    exact run_forIn_list f w l fun y hy => h y (by simp [hy])
theorem run_checkInt (em : Bool) (n : Nat) {t : TypeId} {k k' : IntKind} {m : Int} (hu : P.underlying t = some (.int k)) (w : World) : (Instr.checkKey em (n + 1) t (.int k' m)).run P w = .ok () w := by
  unfold Instr.checkKey
  simp only [Sem.run_bind, run_underlying hu, Result.andThen_ok, Sem.run_pure]
theorem kvals_int : ∀ (ls : List Leaf) (x : LT ls) (i : Nat) (h : i < (LT.kvals ls x).length), ls.all Leaf.isInt = true → ∃ k' m, (LT.kvals ls x)[i] = .int k' m
  | [], _, i, h, _ => by simp [LT.kvals] at h
  | [l], x, i, h, ha => by
    cases l <;> simp [Leaf.isInt] at ha
    simp [LT.kvals] at h
    subst h
    exact ⟨_, _, rfl⟩
  | l :: l' :: ls, x, i, h, ha => by
    simp only [List.all_cons, Bool.and_eq_true] at ha
    obtain ⟨ha1, ha2⟩ := ha
    cases l <;> simp [Leaf.isInt] at ha1
    cases i with
    | zero => exact ⟨_, _, rfl⟩
    | succ i =>
      simp only [LT.kvals, List.getElem_cons_succ]
      exact kvals_int (l' :: ls) x.2 i (by simpa [LT.kvals] using h) (by simpa using ha2)
theorem run_checkG {a : TypeId} {kt : Ty} (hf : KeyForm P a kt) (em : Bool) (x : kt.C) (w : World) : (Instr.checkKey em 10000 a (kt.kval x)).run P w = .ok () w := by
  cases hf with
  | int k hu => exact run_checkInt em 9999 hu w
  | str hu =>
    unfold Instr.checkKey
    simp only [Sem.run_bind, run_underlying hu, Result.andThen_ok, Sem.run_pure, Ty.kval, Leaf.kval]
  | row fs ls hu hst hfs hl hi =>
    show (Instr.checkKey em (9999 + 1) a (.agg (LT.kvals ls x).toArray)).run P w = _
    unfold Instr.checkKey
    simp only [Sem.run_bind, run_underlying hu, Result.andThen_ok]
    rw [← Array.forIn_toList]
    have key : ∀ f ∈ fs.toList, ∃ k k' m, P.underlying f.type = some (.int k) ∧ f.name ≠ "_" ∧ (part f.type (LT.kvals ls x).toArray f.offset).run P w = .ok (.int k' m) w := fun f hfm => by
      obtain ⟨i, hi2, hfi⟩ := List.mem_iff_getElem.1 hfm
      obtain ⟨q1, q2, q3⟩ := hfs (f, i) (by rw [List.mem_zipIdx_iff_getElem?, List.getElem?_eq_getElem hi2, hfi])
      obtain ⟨k, hk⟩ := Option.isSome_iff_exists.1 q3
      have hu2 := intKind_of hk
      have hagg : (isAgg f.type).run P w = .ok false w := run_agg (by unfold aggT; rw [hu2]) w
      have hlen : i < (LT.kvals ls x).length := by rw [kvals_len]; omega
      obtain ⟨k', m, hv⟩ := kvals_int ls x i hlen hi
      refine ⟨k, k', m, hu2, q2, ?_⟩
      simp only at q1
      simp [part, hagg, q1, ← hv, hlen]
    have hfin : ∀ r : Result PUnit, r = .ok ⟨⟩ w → (r.andThen fun _ w' => Sem.run P (pure ()) w') = .ok () w := fun r e => by rw [e]; simp
    refine hfin _ (run_forIn_list (P := P) _ w fs.toList fun f hfm => ?_)
    obtain ⟨k, k', m, h1, h2, h3⟩ := key f hfm
    have hc := run_checkInt (P := P) em 9998 (t := f.type) (k' := k') (m := m) h1 w
    simp only [h2, ne_eq, not_false_eq_true, if_true, Sem.run_bind, h3, Result.andThen_ok, hc, Sem.run_pure]
theorem sameBits_row (n : Nat) : ∀ (ls : List Leaf) (x : LT ls), ls.all Leaf.isInt = true → ((LT.kvals ls x).zip (LT.kvals ls x)).all (fun (a, b) => Instr.sameBits n a b) = true
  | [], _, _ => rfl
  | [l], x, hi => by
    cases l <;> simp [Leaf.isInt] at hi
    simp [LT.kvals, Leaf.kval, Instr.sameBits]
  | l :: l' :: ls, x, hi => by
    simp only [List.all_cons, Bool.and_eq_true] at hi
    obtain ⟨hi1, hi2⟩ := hi
    cases l <;> simp [Leaf.isInt] at hi1
    simp only [LT.kvals, Leaf.kval, List.zip_cons_cons, List.all_cons, Instr.sameBits, beq_self_eq_true, Bool.and_self, Bool.true_and]
    exact sameBits_row n (l' :: ls) x.2 (by simpa using hi2)
theorem run_stays {a : TypeId} {kt : Ty} (hf : KeyForm P a kt) (x : kt.C) (w : World) : (Instr.keyThatStays (kt.kval x) (kt.kval x)).run P w = .ok (kt.kval x) w := by
  have : Instr.sameBits 10000 (kt.kval x) (kt.kval x) = true := by
    cases hf with
    | int k hu => simp [Ty.kval, Leaf.kval, Instr.sameBits]
    | str hu => exact (text_beq x x).trans (decide_eq_true rfl)
    | row fs ls hu hst hfs hl hi =>
      have h := sameBits_row 9999 ls x hi
      show Instr.sameBits (9999 + 1) _ _ = true
      simp only [Ty.kval, Instr.sameBits, List.size_toArray, beq_self_eq_true, Bool.true_and]
      exact h
  unfold Instr.keyThatStays
  rw [this]
  simp
end Go.Proofs.YtjkjcnadgpndoaaGreat.Ev
