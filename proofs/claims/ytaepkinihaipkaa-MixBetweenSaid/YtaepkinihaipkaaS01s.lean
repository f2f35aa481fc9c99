/- What slices.SortStableFunc does with a slice of the call's own: the small steps. Conditions: those of each law. -/
import Derived.Test.YtaepkinihaipkaaFn8
namespace Go.Proofs.Ytaepkinihaipkaa
open Go Go.Proofs.Ytaepkinihaipkaa.Ev
set_option linter.unusedVariables false
set_option linter.unusedSimpArgs false
set_option maxRecDepth 100000
set_option maxHeartbeats 2000000

/-- One number of a list. -/
def g (xs : List Int) (k : Nat) : Int := (xs[k]?).getD 0
theorem g_some {xs : List Int} {k : Nat} (h : k < xs.length) : xs[k]? = some (g xs k) := by
  rw [g, List.getElem?_eq_getElem h]; rfl
theorem g_set {xs : List Int} {i k : Nat} {x : Int} (h : i < xs.length) : g (xs.set i x) k = if k = i then x else g xs k := by
  unfold g
  by_cases e : k = i
  · subst e; simp [h]
  · rw [if_neg e, List.getElem?_set_ne (by omega)]
/-- Two numbers change places. -/
def swp (i j : Nat) (xs : List Int) : List Int := (xs.set i (g xs j)).set j (g xs i)
theorem swp_length {i j : Nat} {xs : List Int} : (swp i j xs).length = xs.length := by simp [swp]
theorem g_swp {i j k : Nat} {xs : List Int} (hi : i < xs.length) (hj : j < xs.length) : g (swp i j xs) k = if k = j then g xs i else if k = i then g xs j else g xs k := by
  unfold swp
  rw [g_set (by simpa using hj), g_set hi]
theorem swp_perm {i j : Nat} {xs : List Int} (hi : i < xs.length) (hj : j < xs.length) : (swp i j xs).Perm xs := by
  have := List.set_set_perm hi hj
  unfold swp
  rw [show g xs j = xs[j] by rw [g, List.getElem?_eq_getElem hj]; rfl, show g xs i = xs[i] by rw [g, List.getElem?_eq_getElem hi]; rfl]
  exact this
/-- The heap with these numbers in a block. -/
def hS (sl : List Slot) (id : Nat) (xs : List Int) : H := hL (sl.set id (.own (cellsL [.int .i64] xs) 1))
abbrev sS (id n : Nat) (t : Bool) : SV := ⟨.hp id n 0, n, n, t⟩
theorem sS_a {id n : Nat} {t : Bool} : (sS id n t).a = .hp id n 0 := congrArg SV.a (Eq.refl (sS id n t))
theorem sS_len {id n : Nat} {t : Bool} : (sS id n t).len = n := congrArg SV.len (Eq.refl (sS id n t))
theorem pack_i (x : Int) : Res.pack (.one (.leaf (.int .i64))) (.int .i64 x) = some x := rfl
theorem add_hp {id n k : Nat} : V.add (.hp id n 0) k = .hp id n k := by simp [V.add]
section steps
variable {sl : List Slot} {id n : Nat} (hid : id < sl.length)
include hid
theorem rdS {xs : List Int} {k : Nat} (hn : xs.length = n) (hk : k < n) : rdT (.leaf (.int .i64)) (hS sl id xs) (V.add (.hp id n 0) (k * 1)) = some (g xs k) := by
  rw [add_hp]
  have := rd_ownL0 (ls := [.int .i64]) (xs := xs) (l := .int .i64) (sl := sl.set id (.own (cellsL [.int .i64] xs) 1)) (id := id) (e := 1) (n := n) (i := k) (w := 1) (by simp [hid]) (by simp [hn]) rfl (by omega)
  unfold hS
  rw [this, g_some (by omega)]
  rfl
theorem wrS {xs : List Int} {k : Nat} {x : Int} (hn : xs.length = n) (hk : k < n) : H.wrs (hS sl id xs) (V.add (.hp id n 0) (k * 1)) [.int .i64 x] = some (hS sl id (xs.set k x)) := by
  rw [add_hp]
  have := wrs_ownL (ls := [.int .i64]) (xs := xs) (sl := sl.set id (.own (cellsL [.int .i64] xs) 1)) (id := id) (e := 1) (n := n) (i := k) (w := 1) (x := x) (vs := [.int .i64 x]) (by simp [hid]) (by simp [hn]) rfl (by omega) rfl
  unfold hS
  rw [this]
  simp [List.set_set]
end steps
theorem i64n {m : Nat} {z : Int} (h : z = (m : Int)) (hm : m < 9223372036854775808) : IntKind.i64.wrap z = (m : Int) := by rw [h]; exact i64_nat hm
end Go.Proofs.Ytaepkinihaipkaa
