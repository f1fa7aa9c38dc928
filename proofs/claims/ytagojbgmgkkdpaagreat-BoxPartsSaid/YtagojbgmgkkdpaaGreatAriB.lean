/- Walks: bits.LeadingZeros64, the carries; num.huge, tiny, Bound, Grow. -/
import Derived.Test.YtagojbgmgkkdpaaGreatAriA
import Derived.Test.YtagojbgmgkkdpaaGreatAddQ
import Derived.Test.YtagojbgmgkkdpaaGreatNumA
namespace Go.Proofs.YtagojbgmgkkdpaaGreat.Wk
open Go.RowKit Go.Proofs.Pl
set_option linter.unusedSimpArgs false
set_option linter.unusedVariables false

theorem bitLen_spec : ∀ (n x : Nat), x ≤ n → 0 < x → x < 18446744073709551616 → ∃ k, Lib.bitLen x = k + 1 ∧ 2 ^ k ≤ x ∧ x < 2 ^ (k + 1)
 | 0, x, h, h0, _ => by omega
 | n + 1, x, h, h0, hx => by
  have hh := Lib.bitLen_half x (by omega) (by rw [W64]; exact hx)
  by_cases h1 : x = 1
  ·subst h1
   exact ⟨0, by decide +kernel, by decide, by decide⟩
  ·obtain ⟨k, e, l1, l2⟩ := bitLen_spec n (x / 2) (by omega) (by omega) (by omega)
   refine ⟨k + 1, by omega, ?_, ?_⟩
   ·rw [Nat.pow_succ]; omega
   ·rw [Nat.pow_succ]; omega
theorem lead_spec (x : Nat) (h0 : 0 < x) (hx : x < 18446744073709551616) : ∃ u : Nat, 64 - (Lib.bitLen x : Int) = (u : Int) ∧ u < 64 ∧ 9223372036854775808 ≤ x * 2 ^ u ∧ x * 2 ^ u < 18446744073709551616 := by
 obtain ⟨k, e, l1, l2⟩ := bitLen_spec x x (Nat.le_refl _) h0 hx
 have hk : k < 64 := by
  rcases Nat.lt_or_ge k 64 with h | h
  ·exact h
  ·have : (2 : Nat) ^ 64 ≤ 2 ^ k := Nat.pow_le_pow_right (by decide) h
   rw [W64] at this
   omega
 refine ⟨63 - k, by omega, by omega, ?_, ?_⟩
 ·have h1 : (2 : Nat) ^ k * 2 ^ (63 - k) = 9223372036854775808 := by rw [← Nat.pow_add, show k + (63 - k) = 63 from by omega]
  rw [← h1]
  exact Nat.mul_le_mul_right _ l1
 ·have h1 : (2 : Nat) ^ (k + 1) * 2 ^ (63 - k) = 18446744073709551616 := by rw [← Nat.pow_add, show k + 1 + (63 - k) = 64 from by omega]
  rw [← h1]
  exact Nat.mul_lt_mul_of_pos_right l2 (Nat.pow_pos (by decide))
theorem lead64_calls (x : Int) (h0 : 0 ≤ x) (h1 : x ≤ 18446744073709551615) (w : World) :
  Calls Tryz.prog 62 #[.int .u64 x] w fun e w' => e = .returned (.int .i64 (64 - (Lib.bitLen x.toNat : Int))) ∧ Below w.heap.size w w' := by
 have hb : Lib.bitLen x.toNat ≤ 64 := Lib.bitLenAux_le 64 x.toNat 64 (by rw [W64]; omega)
 have hb1 : 0 ≤ (Lib.bitLen x.toNat : Int) := by omega
 have hb2 : (Lib.bitLen x.toNat : Int) ≤ 64 := by omega
 have HL := Lib.hid (fun W => len64_calls x h0 h1 W)
 generalize (Lib.bitLen x.toNat : Int) = l at hb1 hb2 HL ⊢
 go_enter Tryz.func62, Tryz.ntmps62
 go_wp2_with (go_at_call 87; (with_reducible refine (HL.out _).mono ?_); rintro e w1 ⟨rfl, hb⟩)
 go_ret
 exact ⟨rfl, hb⟩
set_option maxHeartbeats 800000 in
theorem huge_calls (b : Bool) (w : World) :
  Calls Tryz.prog 156 #[.bool b] w fun e w' => e = .returned (.agg #[.int .i64 1, .bool b, .int .u64 18446744073709551615, .int .i64 1048576]) ∧ Below w.heap.size w w' := by
 go_enter Tryz.func156, Tryz.ntmps156
 go_wp2_with (refine wpList_stG rfl 37 (.tmp 2) (.tmp 4) rfl w.heap.size _ #[.int .i64 1, .bool b, .int .u64 18446744073709551615, .int .i64 1048576] (Blk.new w _ _) rfl rfl (by kernel_rfl) rfl (by simp [Value.oneCell']) ?_; intro W1 B1 P1)
 exact bodyPost_ret (results_cell_row rfl _ _ w.heap.size 37 _ (0, 0) _ rfl B1 Tryz.underlying37 rfl (by kernel_rfl)) rfl ⟨rfl, below_put P1⟩
set_option maxHeartbeats 800000 in
theorem tiny_calls (b : Bool) (w : World) :
  Calls Tryz.prog 157 #[.bool b] w fun e w' => e = .returned (.agg #[.int .i64 1, .bool b, .int .u64 9223372036854775808, .int .i64 (-1048576)]) ∧ Below w.heap.size w w' := by
 go_enter Tryz.func157, Tryz.ntmps157
 go_wp2_with (refine wpList_stG rfl 37 (.tmp 2) (.tmp 4) rfl w.heap.size _ #[.int .i64 1, .bool b, .int .u64 9223372036854775808, .int .i64 (-1048576)] (Blk.new w _ _) rfl rfl (by kernel_rfl) rfl (by simp [Value.oneCell']) ?_; intro W1 B1 P1)
 exact bodyPost_ret (results_cell_row rfl _ _ w.heap.size 37 _ (0, 0) _ rfl B1 Tryz.underlying37 rfl (by kernel_rfl)) rfl ⟨rfl, below_put P1⟩
theorem infN_lit' (b : Bool) (w : World) :
  Calls Tryz.prog 100 #[.bool b] w fun e w' => e = .returned (.agg #[.int .i64 2, .bool b, .int .u64 0, .int .i64 0]) ∧ Below w.heap.size w w' := infN_calls b w
set_option maxHeartbeats 2000000 in
theorem bound_calls (n : Bool) (m e : Int) (away : Bool) (w : World) :
  Calls Tryz.prog 139 #[.bool n, .int .u64 m, .int .i64 e, .bool away] w fun x w' => x = .returned (.agg #[.int .i64 (boundN n m e away).k, .bool (boundN n m e away).n, .int .u64 (boundN n m e away).m, .int .i64 (boundN n m e away).e]) ∧ Below w.heap.size w w' := by
 unfold boundN
 by_cases h1 : 1048576 < e
 ·rw [if_pos h1]
  cases away
  ·rw [if_neg (by simp)]
   dsimp only
   have BR := Blk.new w 37 #[.int .i64 0, .bool false, .int .u64 0, .int .i64 0]
   have HB0 := bl_alloc (Below.refl w.heap.size w) (.cells #[.int .i64 0, .bool false, .int .u64 0, .int .i64 0] 37)
   go_enter Tryz.func139, Tryz.ntmps139
   go_wp2_with (first
    | (go_at_call 156; (with_reducible refine (huge_calls _ _).mono ?_); rintro e' w1 ⟨rfl, hb⟩; have B1 := BR.call hb; have HB1 := bl_trans HB0 hb; clear hb)
    | (refine wpList_stG rfl 37 (.tmp 8) (.tmp 21) rfl w.heap.size _ #[.int .i64 1, .bool n, .int .u64 18446744073709551615, .int .i64 1048576] B1 rfl rfl (by kernel_rfl) rfl (by simp [Value.oneCell']) ?_; intro W2 B2 P2; have HB2 := P2.bel HB1 (Nat.le_refl _)))
   exact bodyPost_ret (results_cell_row rfl _ _ w.heap.size 37 _ (0, 0) _ rfl B2 Tryz.underlying37 rfl (by kernel_rfl)) rfl ⟨rfl, HB2⟩
  ·rw [if_pos rfl]
   dsimp only
   have BR := Blk.new w 37 #[.int .i64 0, .bool false, .int .u64 0, .int .i64 0]
   have HB0 := bl_alloc (Below.refl w.heap.size w) (.cells #[.int .i64 0, .bool false, .int .u64 0, .int .i64 0] 37)
   go_enter Tryz.func139, Tryz.ntmps139
   go_wp2_with (first
    | (go_at_call 100; (with_reducible refine (infN_lit' _ _).mono ?_); rintro e' w1 ⟨rfl, hb⟩; have B1 := BR.call hb; have HB1 := bl_trans HB0 hb; clear hb)
    | (refine wpList_stG rfl 37 (.tmp 8) (.tmp 16) rfl w.heap.size _ #[.int .i64 2, .bool n, .int .u64 0, .int .i64 0] B1 rfl rfl (by kernel_rfl) rfl (by simp [Value.oneCell']) ?_; intro W2 B2 P2; have HB2 := P2.bel HB1 (Nat.le_refl _)))
   exact bodyPost_ret (results_cell_row rfl _ _ w.heap.size 37 _ (0, 0) _ rfl B2 Tryz.underlying37 rfl (by kernel_rfl)) rfl ⟨rfl, HB2⟩
 ·rw [if_neg h1]
  by_cases h2 : e < -1048576
  ·rw [if_pos h2]
   cases away
   ·rw [if_neg (by simp)]
    dsimp only
    have BR := Blk.new w 37 #[.int .i64 0, .bool false, .int .u64 0, .int .i64 0]
    have HB0 := bl_alloc (Below.refl w.heap.size w) (.cells #[.int .i64 0, .bool false, .int .u64 0, .int .i64 0] 37)
    go_enter Tryz.func139, Tryz.ntmps139
    go_wp2_with (refine wpList_stG rfl 37 (.tmp 8) (.tmp 33) rfl w.heap.size _ #[.int .i64 0, .bool false, .int .u64 0, .int .i64 0] BR rfl rfl (by kernel_rfl) rfl (by simp [Value.oneCell']) ?_; intro W2 B2 P2; have HB2 := P2.bel HB0 (Nat.le_refl _))
    exact bodyPost_ret (results_cell_row rfl _ _ w.heap.size 37 _ (0, 0) _ rfl B2 Tryz.underlying37 rfl (by kernel_rfl)) rfl ⟨rfl, HB2⟩
   ·rw [if_pos rfl]
    dsimp only
    have BR := Blk.new w 37 #[.int .i64 0, .bool false, .int .u64 0, .int .i64 0]
    have HB0 := bl_alloc (Below.refl w.heap.size w) (.cells #[.int .i64 0, .bool false, .int .u64 0, .int .i64 0] 37)
    go_enter Tryz.func139, Tryz.ntmps139
    go_wp2_with (first
     | (go_at_call 157; (with_reducible refine (tiny_calls _ _).mono ?_); rintro e' w1 ⟨rfl, hb⟩; have B1 := BR.call hb; have HB1 := bl_trans HB0 hb; clear hb)
     | (refine wpList_stG rfl 37 (.tmp 8) (.tmp 29) rfl w.heap.size _ #[.int .i64 1, .bool n, .int .u64 9223372036854775808, .int .i64 (-1048576)] B1 rfl rfl (by kernel_rfl) rfl (by simp [Value.oneCell']) ?_; intro W2 B2 P2; have HB2 := P2.bel HB1 (Nat.le_refl _)))
    exact bodyPost_ret (results_cell_row rfl _ _ w.heap.size 37 _ (0, 0) _ rfl B2 Tryz.underlying37 rfl (by kernel_rfl)) rfl ⟨rfl, HB2⟩
  ·rw [if_neg h2]
   dsimp only
   have BR := Blk.new w 37 #[.int .i64 0, .bool false, .int .u64 0, .int .i64 0]
   have HB0 := bl_alloc (Below.refl w.heap.size w) (.cells #[.int .i64 0, .bool false, .int .u64 0, .int .i64 0] 37)
   go_enter Tryz.func139, Tryz.ntmps139
   go_wp2_with (refine wpList_stG rfl 37 (.tmp 8) (.tmp 37) rfl w.heap.size _ #[.int .i64 1, .bool n, .int .u64 m, .int .i64 e] BR rfl rfl (by kernel_rfl) rfl (by simp [Value.oneCell']) ?_; intro W2 B2 P2; have HB2 := P2.bel HB0 (Nat.le_refl _))
   exact bodyPost_ret (results_cell_row rfl _ _ w.heap.size 37 _ (0, 0) _ rfl B2 Tryz.underlying37 rfl (by kernel_rfl)) rfl ⟨rfl, HB2⟩
set_option maxHeartbeats 2000000 in
theorem grow_calls (n : Bool) (m e : Int) (cut away : Bool) (h0 : 0 ≤ m) (h1 : m < 18446744073709551616) (h2 : -1099511627776 ≤ e) (h3 : e ≤ 1099511627776) (w : World) :
  Calls Tryz.prog 120 #[.bool n, .int .u64 m, .int .i64 e, .bool cut, .bool away] w fun x w' => x = .returned (.agg #[.int .i64 (growN n m e cut away).k, .bool (growN n m e cut away).n, .int .u64 (growN n m e cut away).m, .int .i64 (growN n m e cut away).e]) ∧ Below w.heap.size w w' := by
 unfold growN
 by_cases hca : (cut && away) = true
 ·rw [if_pos hca]
  obtain ⟨rfl, rfl⟩ : cut = true ∧ away = true := by simpa using hca
  by_cases hmx : m = 18446744073709551615
  ·rw [if_pos hmx]
   subst hmx
   have HBd := Lib.hid (fun W => bound_calls n 9223372036854775808 (e + 1) true W)
   generalize boundN n 9223372036854775808 (e + 1) true = r at HBd ⊢
   clear hca
   have BR := Blk.new w 37 #[.int .i64 0, .bool false, .int .u64 0, .int .i64 0]
   have HB0 := bl_alloc (Below.refl w.heap.size w) (.cells #[.int .i64 0, .bool false, .int .u64 0, .int .i64 0] 37)
   go_enter Tryz.func120, Tryz.ntmps120
   go_wp2_with (first
    | (go_at_call 139; (with_reducible refine (HBd.out _).mono ?_); rintro e' w1 ⟨rfl, hb⟩; have B1 := BR.call hb; have HB1 := bl_trans HB0 hb; clear hb)
    | (refine wpList_stG rfl 37 (.tmp 10) (.tmp 25) rfl w.heap.size _ #[.int .i64 r.k, .bool r.n, .int .u64 r.m, .int .i64 r.e] B1 rfl rfl (by kernel_rfl) rfl (by simp [Value.oneCell']) ?_; intro W2 B2 P2; have HB2 := P2.bel HB1 (Nat.le_refl _)))
   exact bodyPost_ret (results_cell_row rfl _ _ w.heap.size 37 _ (0, 0) _ rfl B2 Tryz.underlying37 rfl (by kernel_rfl)) rfl ⟨rfl, HB2⟩
  ·rw [if_neg hmx]
   have hm2 : m + 1 < 18446744073709551616 := by omega
   have hm3 : ¬ (m + 1 = 0) := by omega
   have hm4 : (m + 1 == 0) = false := beq_eq_false_iff_ne.2 hm3
   have HBd := Lib.hid (fun W => bound_calls n (m + 1) e true W)
   generalize boundN n (m + 1) e true = r at HBd ⊢
   clear hca
   have BR := Blk.new w 37 #[.int .i64 0, .bool false, .int .u64 0, .int .i64 0]
   have HB0 := bl_alloc (Below.refl w.heap.size w) (.cells #[.int .i64 0, .bool false, .int .u64 0, .int .i64 0] 37)
   go_enter Tryz.func120, Tryz.ntmps120
   go_wp2_with (first
    | (go_at_call 139; (with_reducible refine (HBd.out _).mono ?_); rintro e' w1 ⟨rfl, hb⟩; have B1 := BR.call hb; have HB1 := bl_trans HB0 hb; clear hb)
    | (refine wpList_stG rfl 37 (.tmp 10) (.tmp 25) rfl w.heap.size _ #[.int .i64 r.k, .bool r.n, .int .u64 r.m, .int .i64 r.e] B1 rfl rfl (by kernel_rfl) rfl (by simp [Value.oneCell']) ?_; intro W2 B2 P2; have HB2 := P2.bel HB1 (Nat.le_refl _)))
   exact bodyPost_ret (results_cell_row rfl _ _ w.heap.size 37 _ (0, 0) _ rfl B2 Tryz.underlying37 rfl (by kernel_rfl)) rfl ⟨rfl, HB2⟩
 ·rw [if_neg hca]
  have HBd := Lib.hid (fun W => bound_calls n m e away W)
  generalize boundN n m e away = r at HBd ⊢
  cases cut
  ·clear hca
   have BR := Blk.new w 37 #[.int .i64 0, .bool false, .int .u64 0, .int .i64 0]
   have HB0 := bl_alloc (Below.refl w.heap.size w) (.cells #[.int .i64 0, .bool false, .int .u64 0, .int .i64 0] 37)
   go_enter Tryz.func120, Tryz.ntmps120
   go_wp2_with (first
    | (go_at_call 139; (with_reducible refine (HBd.out _).mono ?_); rintro e' w1 ⟨rfl, hb⟩; have B1 := BR.call hb; have HB1 := bl_trans HB0 hb; clear hb)
    | (refine wpList_stG rfl 37 (.tmp 10) (.tmp 25) rfl w.heap.size _ #[.int .i64 r.k, .bool r.n, .int .u64 r.m, .int .i64 r.e] B1 rfl rfl (by kernel_rfl) rfl (by simp [Value.oneCell']) ?_; intro W2 B2 P2; have HB2 := P2.bel HB1 (Nat.le_refl _)))
   exact bodyPost_ret (results_cell_row rfl _ _ w.heap.size 37 _ (0, 0) _ rfl B2 Tryz.underlying37 rfl (by kernel_rfl)) rfl ⟨rfl, HB2⟩
  ·obtain rfl : away = false := by simpa using hca
   clear hca
   have BR := Blk.new w 37 #[.int .i64 0, .bool false, .int .u64 0, .int .i64 0]
   have HB0 := bl_alloc (Below.refl w.heap.size w) (.cells #[.int .i64 0, .bool false, .int .u64 0, .int .i64 0] 37)
   go_enter Tryz.func120, Tryz.ntmps120
   go_wp2_with (first
    | (go_at_call 139; (with_reducible refine (HBd.out _).mono ?_); rintro e' w1 ⟨rfl, hb⟩; have B1 := BR.call hb; have HB1 := bl_trans HB0 hb; clear hb)
    | (refine wpList_stG rfl 37 (.tmp 10) (.tmp 25) rfl w.heap.size _ #[.int .i64 r.k, .bool r.n, .int .u64 r.m, .int .i64 r.e] B1 rfl rfl (by kernel_rfl) rfl (by simp [Value.oneCell']) ?_; intro W2 B2 P2; have HB2 := P2.bel HB1 (Nat.le_refl _)))
   exact bodyPost_ret (results_cell_row rfl _ _ w.heap.size 37 _ (0, 0) _ rfl B2 Tryz.underlying37 rfl (by kernel_rfl)) rfl ⟨rfl, HB2⟩
/-- the carries: laws of the calls (the model stands in for them) -/
def subEntry : Array Value → Sem Value := fun args => do
 let (x, y, b) ← Extern.MathBitsCarry.three "Sub64" args
 pure (Extern.MathBitsCarry.pair ((x + Extern.MathBitsCarry.m64 - y - b) % Extern.MathBitsCarry.m64) (if x < y + b then 1 else 0))
theorem run_subEntry (x y b : Nat) (hb : b ≤ 1) (w : World) :
  (subEntry #[.int .u64 x, .int .u64 y, .int .u64 b]).run Tryz.prog w = .ok (.tuple #[.int .u64 (((x + 18446744073709551616 - y - b) % 18446744073709551616 : Nat) : Int), .int .u64 ((if x < y + b then 1 else 0 : Nat) : Int)]) w := by
 have : b = 0 ∨ b = 1 := by omega
 rcases this with rfl | rfl <;> rfl
theorem add64_run (x y c : Nat) (hc : c ≤ 1) (w : World) :
  (callFunc 122 #[.int .u64 x, .int .u64 y, .int .u64 c]).run Tryz.prog w = .ok (.value (.tuple #[.int .u64 (((x + y + c) % 18446744073709551616 : Nat) : Int), .int .u64 (((x + y + c) / 18446744073709551616 : Nat) : Int)])) w := by
 rw [run_callFunc_extern Tryz.func122 (by kernel_rfl) (by kernel_rfl) (by kernel_rfl) (e := add64Entry) (by kernel_rfl), run_add64 x y c (by omega) (by omega) (by omega) (by omega)]
 simp only [Result.andThen]
 congr 5 <;> omega
theorem sub64_run (x y b : Nat) (hb : b ≤ 1) (w : World) :
  (callFunc 123 #[.int .u64 x, .int .u64 y, .int .u64 b]).run Tryz.prog w = .ok (.value (.tuple #[.int .u64 (((x + 18446744073709551616 - y - b) % 18446744073709551616 : Nat) : Int), .int .u64 ((if x < y + b then 1 else 0 : Nat) : Int)])) w := by
 rw [run_callFunc_extern Tryz.func123 (by kernel_rfl) (by kernel_rfl) (by kernel_rfl) (e := subEntry) (by kernel_rfl), run_subEntry x y b hb]
 rfl
end Go.Proofs.YtagojbgmgkkdpaaGreat.Wk
