/- The reference's Number: some short string. -/
import Derived.Test.YtedhmdocimkldaaDoorPb
import Derived.Deep.DrawnRows
import Derived.IntWalk
attribute [local go_sem ↓] Go.wp_at_zero Go.wp_at_succ
namespace Go.Proofs.YtedhmdocimkldaaDoor.Pa
open Go.RowKit Go.Extern.Stop Go.Stop Go.Extern Go.Shelf Go.Sort

theorem conv_any (W : World) (b : Nat) (c : Int) (h : W.cell? ⟨b, 0, none⟩ = some (.int .u8 c)) : (convert 86 9 (.slice (some ⟨b, 0, none⟩) 1 1)).run Tryd.prog W = .ok (.string ⟨#[UInt8.ofNat c.toNat]⟩) W := by
  rw [run_convert_bytes_string W 86 9 5 _ _ _ Tryd.underlying86 Tryd.underlying5 Tryd.underlying9, run_bytesToString W _ 1 1 [c] (run_loadCells_list W _ [.int .u8 c] (fun j v hj => by
    match j, hj with
    | 0, hj => simp at hj; subst hj; exact h))]
  rfl
theorem conv_new (W : World) (t : TypeId) (c : Int) : (convert 86 9 (.slice (some ⟨W.heap.size, 0, none⟩) 1 1)).run Tryd.prog (W.alloc (.cells #[.int .u8 c] t)) = .ok (.string ⟨#[UInt8.ofNat c.toNat]⟩) (W.alloc (.cells #[.int .u8 c] t)) :=
  conv_any _ _ _ (cell_last W _ t _ 0 rfl)
theorem conv_drew (W : World) (t : TypeId) (c : Int) : (convert 86 9 (.slice (some ⟨W.heap.size, 0, none⟩) 1 1)).run Tryd.prog (W.alloc (.cells #[.int .u8 c] t)).drew = .ok (.string ⟨#[UInt8.ofNat c.toNat]⟩) (W.alloc (.cells #[.int .u8 c] t)).drew :=
  conv_any _ _ _ (cell_last W _ t _ 0 rfl)
theorem keep_drew {W w1 : World} {c : Value} {t : TypeId} (hb : Below (W.alloc (.cells #[c] t)).drew.heap.size (W.alloc (.cells #[c] t)).drew w1) : w1.cell? ⟨W.heap.size, 0, none⟩ = some c :=
  (hb.cell (p := ⟨W.heap.size, 0, none⟩) (by simp)).trans (cell_last W _ _ _ 0 rfl)
theorem size1 (c : UInt8) : ByteArray.size ⟨#[c]⟩ = 1 := rfl
theorem number_small (n : Int) (w : World) (d : Nat) (h0 : 0 ≤ n) (h1 : n < 10) : Calls Tryd.prog 76 #[.int .i64 n] w (Some (d + 1) w) := by
  have cn := conv_new
  go_enter Tryd.func76, Tryd.ntmps76
  go_wp2
  go_ret
  exact ⟨_, rfl, by rw [size1]; omega, below_alloc w _⟩
set_option maxHeartbeats 1600000 in
set_option maxRecDepth 100000 in
theorem number_any : ∀ (d : Nat) (n : Int) (w : World), 0 ≤ n → n < 10 ^ (d + 1) → d < 18 → Calls Tryd.prog 76 #[.int .i64 n] w (Some (d + 1) w) := by
  intro d
  induction d with
  | zero => intro n w h0 h1 _; exact number_small n w 0 h0 (by simpa using h1)
  | succ d ih =>
    intro n w h0 h1 hd
    by_cases h10 : n < 10
    · exact number_small n w _ h0 h10
    · have hq : n / 10 < 10 ^ (d + 1) := by rw [Int.pow_succ] at h1; omega
      have hp : (10 : Int) ^ (d + 1) ≤ 10 ^ 18 := by
        have := Nat.pow_le_pow_right (n := 10) (by decide) (show d + 1 ≤ 18 by omega)
        exact_mod_cast this
      have hbig2 : n / 10 ≤ 9223372036854775807 := by omega
      have e : IntKind.i64.wrap (n.tdiv 10) = n / 10 := by
        rw [Int.tdiv_eq_ediv_of_nonneg h0]
        exact IntWalk.i64_in _ ⟨by omega, hbig2⟩
      have HC : Hid (∀ W, Calls Tryd.prog 76 #[.int .i64 (IntKind.i64.wrap (n.tdiv 10))] W (Some (d + 1) W)) := fun W => by rw [e]; exact ih _ W (by omega) hq (by omega)
      clear hq ih h1 hp hbig2 e
      have cn := conv_new
      have cd := conv_drew
      go_enter Tryd.func76, Tryd.ntmps76
      go_wp2
      go_region_with ((go_at_call 76; refine (HC.out _).mono ?_; rintro e w1 ⟨x, rfl, hx, hb1⟩; (try have hc3 := conv_any _ _ _ (keep_drew hb1)); have hs1 := hb1.size; (try simp at hs1)))
      all_goals go_wp2
      all_goals go_ret
      all_goals refine ⟨_, rfl, by rw [ByteArray.size_append, size1]; omega, ?_⟩
      · exact Below.alloc (B := w.heap.size) ((Below.refl _ w).drew.trans hb1) (by omega) _
      · exact (below_alloc w _).drew.trans (hb1.mono (by simp))
      · exact (below_alloc w _).drew.trans (hb1.mono (by simp))
end Go.Proofs.YtedhmdocimkldaaDoor.Pa
