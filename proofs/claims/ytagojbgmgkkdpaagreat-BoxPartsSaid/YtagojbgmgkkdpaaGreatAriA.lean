/- Walks: bits.Len64, LeadingZeros64; the carries. -/
import Derived.Test.YtagojbgmgkkdpaaGreatStG
import Derived.Lib.BitFns
import Derived.Lib.Walk
import Derived.Laws.Externs
namespace Go.Proofs.YtagojbgmgkkdpaaGreat.Wk
open Go.RowKit Go.Proofs.Pl
set_option linter.unusedSimpArgs false
set_option linter.unusedVariables false

theorem tab_size : Lib.len8tab.size = 256 := by decide +kernel
theorem tab_all : ∀ n : Fin 256, (Lib.len8tab[n.val]?).map (·.toNat) = some (Lib.bitLen n.val) := by decide +kernel
theorem tab_at (i : Nat) (h : i < Lib.len8tab.size) : Lib.len8tab[i].toNat = Lib.bitLen i := by
 have hi : i < 256 := by rw [← tab_size]; exact h
 have := tab_all ⟨i, hi⟩
 dsimp only at this
 rw [getElem?_pos Lib.len8tab i h] at this
 simpa using this
theorem leaf (x k i : Nat) (hx : x < 18446744073709551616) (hi : i < 256) (e : i = x / 2 ^ k) (hk : 2 ^ k ≤ x ∨ k = 0) (hk8 : k ≤ 56) : wrap64 ((k : Int) + wrap64 (Lib.bitLen i : Int)) = (Lib.bitLen x : Int) ∧ wrap64 (wrap64 (Lib.bitLen i : Int)) = (Lib.bitLen i : Int) := by
 have hb := Lib.bitLen_le8 ⟨i, hi⟩
 dsimp only at hb
 have w1 : wrap64 (Lib.bitLen i : Int) = Lib.bitLen i := by unfold wrap64; omega
 rw [w1, w1]
 refine ⟨?_, rfl⟩
 have w2 : wrap64 ((k : Int) + (Lib.bitLen i : Int)) = k + Lib.bitLen i := by unfold wrap64; omega
 rw [w2, e]
 rcases hk with hk | rfl
 ·have := Lib.bitLen_shift k x hk hx
  omega
 ·simp
set_option maxRecDepth 100000 in
set_option maxHeartbeats 4000000 in
theorem len64_calls (x : Int) (h0 : 0 ≤ x) (h1 : x ≤ 18446744073709551615) (w : World) :
  Calls Tryz.prog 87 #[.int .u64 x] w fun e w' => e = .returned (.int .i64 (Lib.bitLen x.toNat)) ∧ Below w.heap.size w w' := by
 have hz : (Lib.len8tab.size : Int) = 256 := by rw [tab_size]; rfl
 go_enter Tryz.func87, Tryz.ntmps87
 go_wp2
 all_goals go_ret
 all_goals refine ⟨congrArg Ending.returned (congrArg (Value.int IntKind.i64) ?_), Below.refl _ _⟩
 all_goals rw [tab_at]
 all_goals first
  | exact (leaf x.toNat 56 _ (by omega) (by omega) (by omega) (by omega) (by omega)).1
  | exact (leaf x.toNat 48 _ (by omega) (by omega) (by omega) (by omega) (by omega)).1
  | exact (leaf x.toNat 40 _ (by omega) (by omega) (by omega) (by omega) (by omega)).1
  | exact (leaf x.toNat 32 _ (by omega) (by omega) (by omega) (by omega) (by omega)).1
  | exact (leaf x.toNat 24 _ (by omega) (by omega) (by omega) (by omega) (by omega)).1
  | exact (leaf x.toNat 16 _ (by omega) (by omega) (by omega) (by omega) (by omega)).1
  | exact (leaf x.toNat 8 _ (by omega) (by omega) (by omega) (by omega) (by omega)).1
  | exact (leaf x.toNat 0 _ (by omega) (by omega) (by simp) (by omega) (by omega)).2
end Go.Proofs.YtagojbgmgkkdpaaGreat.Wk
