/- The sort of the adjustments. -/
import Derived.Test.YtedhmdocimkldaaDoorPf
import Derived.Shelf.SlSortCmp.WholeK
namespace Go.Proofs.YtedhmdocimkldaaDoor.Pa
open Go.RowKit Go.Extern.Stop Go.Stop Go.Extern Go.Shelf Go.Sort Go.Maps

/-- An adjustment whose item is no great number. -/
abbrev Adj := { p : Int × Int // 0 ≤ p.1 ∧ p.1 ≤ 1000000000000000000 }
instance : Inhabited Adj := ⟨⟨(0, 0), by decide⟩⟩
def encA (x : Adj) : List Value := encP x.1
def cfA (x y : Adj) : Int := x.1.1 - y.1.1
theorem ltA (x y : Adj) : ltOf cfA x y = decide (x.1.1 < y.1.1) := by
  unfold ltOf cfA
  by_cases h : x.1.1 < y.1.1
  · simp [h]; omega
  · simp [h]; omega
theorem swoA : SWO (ltOf cfA) where
  irrefl x := by rw [ltA]; simp
  trans x y z h1 h2 := by rw [ltA] at *; simp at *; omega
  ntrans x y z h1 h2 := by rw [ltA] at *; simp at *; omega
theorem closure48 (x y : Adj) (W : World) : Calls Tryd.prog 48 #[.agg #[.int .i64 x.1.1, .int .i64 x.1.2], .agg #[.int .i64 y.1.1, .int .i64 y.1.2]] W fun e w' => e = .returned (.int .i64 (cfA x y)) ∧ ∃ q os', w' = grow (W.drewN q) os' := by
  obtain ⟨⟨a, b⟩, h1, h2⟩ := x
  obtain ⟨⟨c, d⟩, h3, h4⟩ := y
  simp only at h1 h2 h3 h4
  show Calls Tryd.prog 48 #[.agg #[.int .i64 a, .int .i64 b], .agg #[.int .i64 c, .int .i64 d]] W fun e w' => e = .returned (.int .i64 (a - c)) ∧ ∃ q os', w' = grow (W.drewN q) os'
  go_enter Tryd.func48, Tryd.ntmps48
  go_wp2
  go_ret
  exact ⟨rfl, 0, _, by rw [alloc_eq_grow, alloc_eq_grow, grow_grow]; rfl⟩
theorem cmpA (blk off size : Nat) (w : World) : CmpLays Tryd.prog 48 #[] encA 2 cfA blk off size w := fun _ _ _ _ x y => closure48 x y _
theorem e48 : ∀ args w, (callFunc 48 args).run Tryd.prog w = .ok (.enter 48 args) w := enters_of Tryd.func48 (by kernel_rfl) rfl
theorem sort_whole (blk off cap : Nat) (d : Array Adj) (w : World) (hH : HoldsK encA 2 w blk off d) (hblk : blk < w.heap.size) (hsz : d.size < 4611686018427387904) :
    Calls Tryd.prog 47 #[.slice (some ⟨blk, off, none⟩) d.size cap, .func (.func 48) #[] #[]] w fun e w' =>
      e = .returned (.tuple #[]) ∧ ∃ d' n os, PermIn 0 d.size d d' ∧ SortedIn (ltOf cfA) 0 d.size d' ∧ w' = sortWorldK encA 2 w blk off n d' os :=
  AnyQ.slices_SortFunc Tryd.sortAdj 2 Tryd.isAgg49 Tryd.sizeOf49 encA (fun _ => rfl) (fun x v hv => by simp [encA, encP] at hv; rcases hv with rfl | rfl <;> rfl) cfA swoA 48 #[] blk off cap d w e48 (cmpA blk off d.size w) hH hblk hsz
end Go.Proofs.YtedhmdocimkldaaDoor.Pa
