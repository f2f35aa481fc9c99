/- What an operation does to the rest of the evaluation: it hands one value on; what it depends on. Conditions: 'TabOK'. -/
import Derived.Test.YtjkjcnadgpndoaaGreatEvStep
namespace Go.Proofs.YtjkjcnadgpndoaaGreat.Ev
open Go Go.RowKit
set_option linter.unusedVariables false
set_option linter.unusedSimpArgs false

section nat
variable {P : Program} {T : Table} {A : Ann} {α : Type}
theorem guardO_bind {p : Prop} [Decidable p] {β γ : Type} (x : Option β) (f : β → Option γ) : (guardO p x).bind f = guardO p (x.bind f) := by unfold guardO; split <;> rfl
theorem cond_bind {b : Bool} {β γ : Type} (x y : Option β) (f : β → Option γ) : (cond b x y).bind f = cond b (x.bind f) (y.bind f) := by cases b <;> rfl
theorem binInt_nat (op : BinOp) (ka : IntKind) (x : Int) (kb : IntKind) (y : Int) (k : V → Option α) : binInt op ka x kb y k = (binInt op ka x kb y some).bind k := by
  cases op <;> simp only [binInt] <;> (try split) <;> simp [guardO_bind]
theorem binStr_nat (op : BinOp) (x y : ByteArray) (k : V → Option α) : binStr op x y k = (binStr op x y some).bind k := by
  cases op <;> simp [binStr]
theorem binV_nat (op : BinOp) (t : TypeId) (x y : V) (k : V → Option α) : binV P op t x y k = (binV P op t x y some).bind k := by
  unfold binV
  split
  · exact binInt_nat ..
  · exact binStr_nat ..
  · cases isBool P t <;> cases op <;> simp
  · generalize ((isSlice P t).isSome && _) = g; cases g <;> cases op <;> simp
  · split
    · generalize (fits _ _ && fits _ _) = g
      cases g <;> cases op <;> simp [Option.bind_assoc]
    · rfl
  · rfl
theorem unV_nat (op : UnOp) (x : V) (k : V → Option α) : unV op x k = (unV op x some).bind k := by
  unfold unV; split <;> simp
theorem boundOr_nat (v : Option V) (d : Nat) {β : Type} (k : Int → Option α) (f : α → Option β) : (boundOr v d k).bind f = boundOr v d fun n => (k n).bind f := by
  unfold boundOr; split <;> simp
theorem sliceV_nat (size : Nat) (v : V) (l c : Nat) (tl : Bool) (lo hi mx : Option V) (k : V → Option α) : sliceV size v l c tl lo hi mx k = (sliceV size v l c tl lo hi mx some).bind k := by
  unfold sliceV
  split
  · simp [boundOr_nat, guardO_bind]
  · split
    · rfl
    · simp [boundOr_nat, guardO_bind]
theorem retypeU_nat (t : TypeId) (v : V) (k : V → Option α) : retypeU P t v k = (retypeU P t v some).bind k := by
  unfold retypeU; split <;> simp [Option.bind_assoc]
theorem retype_nat (t : TypeId) (v : V) (k : V → Option α) : retype P t v k = (retype P t v some).bind k := by
  unfold retype; split <;> simp [Option.bind_assoc]
theorem retypeB_nat (b : Bool) (t : TypeId) (v : V) (k : V → Option α) : retypeB b P t v k = (retypeB b P t v some).bind k := by
  cases b
  · exact retype_nat t v k
  · exact retypeU_nat t v k
theorem newAt_nat (h : H) (at_ : Option Nat) (cs : List V) (e g : Nat) {β : Type} (k : V → H → Option α) (f : α → Option β) : (newAt h at_ cs e g k).bind f = newAt h at_ cs e g fun v h => (k v h).bind f := by
  unfold newAt; split <;> rfl
theorem cellsT_nat (t : TypeId) (v : V) {β : Type} (k : List V → Option α) (f : α → Option β) : (cellsT P t v k).bind f = cellsT P t v fun cs => (k cs).bind f := by
  unfold cellsT
  split
  · exact guardO_bind ..
  · split <;> rfl
  · rfl
theorem appendV_nat (h : H) (at_ : Option Nat) (esz bytes : Nat) (s : V) (cs : List V) (n : Nat) (k : V → H → Option α) :
    appendV h at_ esz bytes s cs n k = (appendV h at_ esz bytes s cs n fun v h => some (v, h)).bind fun p => k p.1 p.2 := by
  unfold appendV
  split
  · split
    · rfl
    · rw [guardO_bind]
      congr 1
      split
      · split
        · split
          · split
            · simp [newAt_nat]
            · rfl
          · split
            · simp [Option.bind_assoc]
            · split
              · rfl
              · split
                · simp [newAt_nat, Option.bind_assoc]
                · rfl
        · rfl
      · split
        · simp [newAt_nat]
        · split
          · simp [newAt_nat, Option.bind_assoc]
          · rfl
  · rfl
theorem builtinOp_nat (b : Builtin) (ts : Array TypeId) (at_ : Option Nat) (args : List V) (h : H) (k : V → H → Option α) :
    builtinOp P b ts at_ args h k = (builtinOp P b ts at_ args h fun v h => some (v, h)).bind fun p => k p.1 p.2 := by
  unfold builtinOp
  split
  · split
    · split <;> rfl
    · rfl
  · split
    · rename_i u _
      generalize ((isSlice P u).isSome && !_) = b
      cases b <;> rfl
    · rfl
  · rfl
  · rfl
  · rfl
  · rfl
  · split
    · split
      · split
        · split
          · split
            · simp [Option.bind_assoc]
            · rfl
          · rfl
        · rfl
      · rfl
    · rfl
  · split
    · split
      · split
        · rw [Option.bind_assoc]
          congr 1
          funext c
          split
          · rfl
          · simp [Option.bind_assoc]
        · rfl
      · rfl
    · rfl
  · split
    · split
      · split
        · simp [Option.bind_assoc]
        · rfl
      · rfl
    · rfl
  · rfl
theorem callV_nat {T : Dyn} (hT : DynOK P T) (v : V) (args : List V) (h : H) (k : V → H → Option α) : callV T v args h k = (callV T v args h fun v h => some (v, h)).bind fun p => k p.1 p.2 := by
  unfold callV
  split
  · rename_i g cs
    obtain ⟨⟨r, hr⟩, _⟩ := hT.1 g (args ++ cs) h
    rw [hr, hr]
    cases r <;> simp
  · rename_i id
    obtain ⟨r, hr⟩ := hT.2.2 (.yld id :: args) h
    rw [hr, hr]
    cases r <;> simp
  · rfl
theorem callB_nat {q y : Bool} {T : Dyn} (hT : DynOK P T) (v : V) (args : List V) (h : H) (k : V → H → Option α) : callB q y T v args h k = (callB q y T v args h fun v h => some (v, h)).bind fun p => k p.1 p.2 := by
  cases q with
  | false =>
    cases y with
    | false => exact callV_nat hT v args h k
    | true =>
      simp only [callB, cond_true, cond_false]
      cases v <;> simp only [callF, Option.bind_none]
      rename_i g cs
      cases (T.fn g).free with
      | false => rfl
      | true =>
        obtain ⟨⟨r, hr⟩, _⟩ := hT.1 g (args ++ cs) h
        simp only [cond_true]
        rw [hr, hr]
        cases r <;> simp
  | true =>
    simp only [callB, cond_true]
    cases v <;> simp only [callQ, Option.bind_none]
    rename_i g cs
    cases (T.fn g).quiet with
    | false => rfl
    | true =>
      obtain ⟨⟨r, hr⟩, _⟩ := hT.1 g (args ++ cs) h
      simp only [cond_true]
      rw [hr, hr]
      cases r <;> simp
theorem stepOp_nat (hT : TabW P T) (o : Oper) (at_ : Option Nat) (env : Env) (h : H) (k : V → H → Option α) :
    stepOp P T A o at_ env h k = (stepOp P T A o at_ env h fun v h => some (v, h)).bind fun p => k p.1 p.2 := by
  unfold stepOp
  split
  · rfl
  · rfl
  · split
    · rfl
    · rename_i b _ _
      cases b <;> simp
    · rfl
  · simp [Option.bind_assoc, newAt_nat]
  · rw [cellsT_nat]
    congr 1; funext cs
    rw [cond_bind]
    simp [newAt_nat]
  · split
    · simp [Option.bind_assoc]
    · rfl
  · split
    · split
      · simp only [Option.bind_assoc, guardO_bind]
        congr 1; funext c0
        congr 1; funext cs
        congr 1
        rw [cond_bind]
        simp [newAt_nat]
      · rfl
    · rfl
  · split
    · simp [Option.bind_assoc]
    · rfl
  · split
    · rw [cellsT_nat]
      congr 1; funext vs
      split
      · simp [Option.bind_assoc]
      · rfl
    · rfl
  · rw [guardO_bind]; rfl
  · rw [binV_nat, binV_nat (k := fun v => some (v, h)), Option.bind_assoc]; simp
  · rw [unV_nat, unV_nat (k := fun v => some (v, h)), Option.bind_assoc]; simp
  · rename_i src dst x _
    cases (P.underlying src).isNone
    · simp only [cond_false]
      split
      · rfl
      · split <;> rfl
      · rfl
    · rfl
  · split <;> rfl
  · split
    · split
      · simp [guardO_bind, newAt_nat]
      · rfl
    · rfl
  · split
    · split
      · split
        · rw [sliceV_nat, sliceV_nat (k := fun v => some (v, h)), Option.bind_assoc]; simp
        · rfl
      · rfl
    · split
      · split
        · rw [guardO_bind]
          congr 1
          rw [sliceV_nat, sliceV_nat (k := fun v => some (v, h)), Option.bind_assoc]; simp
        · rfl
      · rfl
  · split
    · split
      · rw [guardO_bind]; rfl
      · rfl
    · rfl
  · split
    · simp [Option.bind_assoc]
    · rfl
  · split
    · split
      · split
        · rw [guardO_bind]; rfl
        · rfl
      · rfl
    · split
      · split
        · rw [guardO_bind]; rfl
        · rfl
      · rfl
  · split
    · split
      · split
        · rw [guardO_bind]; simp [Option.bind_assoc]
        · rfl
      · rfl
    · split
      · rw [guardO_bind]; rfl
      · rfl
    · rfl
  · split
    · simp [Option.bind_assoc]
    · rfl
  · split
    · split
      · rfl
      · split <;> rfl
    · rfl
  · split
    · split
      · rw [guardO_bind]
        congr 1
        split
        · rfl
        · simp [Option.bind_assoc]
      · rfl
    · split
      · simp [Option.bind_assoc]
      · rfl
  · split
    · split
      · rw [guardO_bind]
        congr 1
        split
        · rfl
        · simp [Option.bind_assoc]
      · rfl
    · split
      · simp [Option.bind_assoc]
      · rfl
  · split
    · rfl
    · split
      · simp [Option.bind_assoc]
      · rfl
  · split
    · rfl
    · split
      · simp [Option.bind_assoc]
      · rfl
  · split
    · rfl
    · split
      · simp [Option.bind_assoc]
      · rfl
  · split
    · split
      · simp [Option.bind_assoc]
      · rfl
    · rfl
  · split
    · rw [callB_nat (hT.at _), callB_nat (hT.at _) (k := fun v h' => retypeB (A.toks.any fun t => o.dst == some t) P o.type v fun v => some (v, h')), Option.bind_assoc]
      congr 1; funext p
      rw [retypeB_nat, retypeB_nat (k := fun v => some (v, p.2)), Option.bind_assoc]; simp
    · exact builtinOp_nat ..
    · rfl
  · rfl
end nat
end Go.Proofs.YtjkjcnadgpndoaaGreat.Ev
