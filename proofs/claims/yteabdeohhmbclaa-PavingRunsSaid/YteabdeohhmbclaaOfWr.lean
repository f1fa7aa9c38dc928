/- Walks: num.Of and peloruslaw08.Of of any whole numbers. -/
import Derived.Test.YteabdeohhmbclaaAriXr
import Derived.Test.YteabdeohhmbclaaAwAr
import Derived.Test.YteabdeohhmbclaaPureAr
import Derived.Test.YteabdeohhmbclaaBsAr
namespace Go.Proofs.Yteabdeohhmbclaa.Wk
open Go.RowKit Go.Proofs.Pl
set_option linter.unusedSimpArgs false
set_option linter.unusedVariables false

theorem lead_log {s : Nat} (h0 : s ≠ 0) (h : s < 18446744073709551616) : 64 - (Lib.bitLen s : Int) = ((63 - s.log2 : Nat) : Int) := by
 obtain ⟨k, e, l1, l2⟩ := bitLen_spec s s (Nat.le_refl _) (by omega) h
 obtain ⟨_, e2⟩ := log_of l1 l2
 have := (log_norm h0 h).1
 rw [e, e2]
 omega
set_option maxRecDepth 100000 in
set_option maxHeartbeats 2000000 in
theorem of_walk (n : Int) (s : Int) (k : Nat) (b : Bool) (m : Int) (hb : decide (n < 0) = b) (hs0 : s ≠ 0) (hk : (k : Int) < 64)
  (hc0 : b = false → IntKind.u64.wrap n = s) (hc1 : b = true → IntKind.u64.wrap (-(IntKind.u64.wrap n)) = s)
  (hm : IntKind.u64.wrap (s * 2 ^ k) = m)
  (HL : ∀ W, Calls Try.prog 38 #[.u s] W fun e w' => e = .returned (.i (k : Int)) ∧ Below W.heap.size W w') (w : World) :
  Calls Try.prog 18 #[.i n] w fun e w' => e = .returned (.agg #[.i 1, .b b, .u m, .i (-(k : Int))]) ∧ Below w.heap.size w w' := by
 replace HL := Lib.hid HL
 replace hm := Lib.hid hm
 have hk0 : ¬ (k : Int) < 0 := by omega
 have BR := Blk.new w 24 #[.i 0, .b false, .u 0, .i 0]
 have HB := bl_alloc (Below.refl w.heap.size w) (.cells #[.i 0, .b false, .u 0, .i 0] 24)
 have hd := Lib.hid hb
 cases b
 ·replace hb : ¬ n < 0 := by simpa using hb
  have hc := hc0 rfl
  clear hc0 hc1
  go_enter Try.func18, Try.ntmps18
  go_wp2_with (first
   | (go_at_call 38; (try rw [hc]); (with_reducible refine (HL.out _).mono ?_); rintro e w1 ⟨rfl, hb1⟩; have BR1 := BR.call hb1; have HB1 := bl_trans HB hb1)
   | (rw [hm.out]; (try rw [hd.out]); refine wpList_stG rfl 24 (.tmp 2) (.tmp 23) rfl w.heap.size _ #[.i 1, .b false, .u m, .i (-(k : Int))] BR1 rfl rfl (by kernel_rfl) rfl (by simp [Value.oneCell']) ?_; intro W1 B1 P1))
  exact bodyPost_ret (results_cell_row rfl _ _ w.heap.size 24 _ (0, 0) _ rfl B1 Try.underlying24 rfl (by kernel_rfl)) rfl ⟨rfl, P1.bel HB1 (by omega)⟩
 ·replace hb : n < 0 := by simpa using hb
  have hc := hc1 rfl
  clear hc0 hc1
  go_enter Try.func18, Try.ntmps18
  go_wp2_with (first
   | (go_at_call 38; (try rw [hc]); (with_reducible refine (HL.out _).mono ?_); rintro e w1 ⟨rfl, hb1⟩; have BR1 := BR.call hb1; have HB1 := bl_trans HB hb1)
   | (rw [hm.out]; (try rw [hd.out]); refine wpList_stG rfl 24 (.tmp 2) (.tmp 23) rfl w.heap.size _ #[.i 1, .b true, .u m, .i (-(k : Int))] BR1 rfl rfl (by kernel_rfl) rfl (by simp [Value.oneCell']) ?_; intro W1 B1 P1))
  exact bodyPost_ret (results_cell_row rfl _ _ w.heap.size 24 _ (0, 0) _ rfl B1 Try.underlying24 rfl (by kernel_rfl)) rfl ⟨rfl, P1.bel HB1 (by omega)⟩
end Go.Proofs.Yteabdeohhmbclaa.Wk
