/- Walks: bits.Len64, LeadingZeros64; the carries. -/
import Derived.Test.YteabdeohhmbclaaGreatBsAy
import Derived.Lib.BitFns
import Derived.Lib.Walk
import Derived.Laws.Externs
import Derived.Test.YteabdeohhmbclaaGreatPureAy
import Derived.Test.YteabdeohhmbclaaGreatNumXy
namespace Go.Proofs.YteabdeohhmbclaaGreat.Wk
open Go.RowKit Go.Proofs.Pl
set_option linter.unusedSimpArgs false
set_option linter.unusedVariables false

theorem tab_size : Lib.len8tab.size = 256 := by decide +kernel
theorem tab_all : ∀ n : Fin 256, (Lib.len8tab[n.val]?).map (·.toNat) = some (Lib.bitLen n.val) := by decide +kernel
theorem tab_at (i : Nat) (h : i < Lib.len8tab.size) : Lib.len8tab[i].toNat = Lib.bitLen i := by
 have hi : i < 256 := by rw [← tab_size]; exact h
 have := tab_all ⟨i, hi⟩
 dsimp only at this
 rw [getElem?_pos Lib.len8tab i h] at this
 simpa using this
theorem leaf (x k i : Nat) (hx : x < 18446744073709551616) (hi : i < 256) (e : i = x / 2 ^ k) (hk : 2 ^ k ≤ x ∨ k = 0) (hk8 : k ≤ 56) : wrap64 ((k : Int) + wrap64 (Lib.bitLen i : Int)) = (Lib.bitLen x : Int) ∧ wrap64 (wrap64 (Lib.bitLen i : Int)) = (Lib.bitLen i : Int) := by
 have hb := Lib.bitLen_le8 ⟨i, hi⟩
 dsimp only at hb
 have w1 : wrap64 (Lib.bitLen i : Int) = Lib.bitLen i := by unfold wrap64; omega
 rw [w1, w1]
 refine ⟨?_, rfl⟩
 have w2 : wrap64 ((k : Int) + (Lib.bitLen i : Int)) = k + Lib.bitLen i := by unfold wrap64; omega
 rw [w2, e]
 rcases hk with hk | rfl
 ·have := Lib.bitLen_shift k x hk hx
  omega
 ·simp
set_option maxRecDepth 100000 in
set_option maxHeartbeats 4000000 in
theorem len64_calls (x : Int) (h0 : 0 ≤ x) (h1 : x ≤ 18446744073709551615) (w : World) :
  Calls Tryz.prog 33 #[.u x] w fun e w' => e = .returned (.i (Lib.bitLen x.toNat)) ∧ Below w.heap.size w w' := by
 have hz : (Lib.len8tab.size : Int) = 256 := by rw [tab_size]; rfl
 go_enter Tryz.func33, Tryz.ntmps33
 go_wp2
 all_goals go_ret
 all_goals refine ⟨congrArg Ending.returned (congrArg (Value.int IntKind.i64) ?_), Below.refl _ _⟩
 all_goals rw [tab_at]
 all_goals first
  | exact (leaf x.toNat 56 _ (by omega) (by omega) (by omega) (by omega) (by omega)).1
  | exact (leaf x.toNat 48 _ (by omega) (by omega) (by omega) (by omega) (by omega)).1
  | exact (leaf x.toNat 40 _ (by omega) (by omega) (by omega) (by omega) (by omega)).1
  | exact (leaf x.toNat 32 _ (by omega) (by omega) (by omega) (by omega) (by omega)).1
  | exact (leaf x.toNat 24 _ (by omega) (by omega) (by omega) (by omega) (by omega)).1
  | exact (leaf x.toNat 16 _ (by omega) (by omega) (by omega) (by omega) (by omega)).1
  | exact (leaf x.toNat 8 _ (by omega) (by omega) (by omega) (by omega) (by omega)).1
  | exact (leaf x.toNat 0 _ (by omega) (by omega) (by simp) (by omega) (by omega)).2
end Go.Proofs.YteabdeohhmbclaaGreat.Wk
namespace Go.Proofs.YteabdeohhmbclaaGreat.Wk
open Go.RowKit Go.Proofs.Pl
set_option linter.unusedSimpArgs false
set_option linter.unusedVariables false

theorem bitLen_spec : ∀ (n x : Nat), x ≤ n → 0 < x → x < 18446744073709551616 → ∃ k, Lib.bitLen x = k + 1 ∧ 2 ^ k ≤ x ∧ x < 2 ^ (k + 1)
 | 0, x, h, h0, _ => by omega
 | n + 1, x, h, h0, hx => by
  have hh := Lib.bitLen_half x (by omega) (by rw [W64]; exact hx)
  by_cases h1 : x = 1
  ·subst h1
   exact ⟨0, by decide +kernel, by decide, by decide⟩
  ·obtain ⟨k, e, l1, l2⟩ := bitLen_spec n (x / 2) (by omega) (by omega) (by omega)
   refine ⟨k + 1, by omega, ?_, ?_⟩
   ·rw [Nat.pow_succ]; omega
   ·rw [Nat.pow_succ]; omega
theorem lead_spec (x : Nat) (h0 : 0 < x) (hx : x < 18446744073709551616) : ∃ u : Nat, 64 - (Lib.bitLen x : Int) = (u : Int) ∧ u < 64 ∧ 9223372036854775808 ≤ x * 2 ^ u ∧ x * 2 ^ u < 18446744073709551616 := by
 obtain ⟨k, e, l1, l2⟩ := bitLen_spec x x (Nat.le_refl _) h0 hx
 have hk : k < 64 := by
  rcases Nat.lt_or_ge k 64 with h | h
  ·exact h
  ·have : (2 : Nat) ^ 64 ≤ 2 ^ k := Nat.pow_le_pow_right (by decide) h
   rw [W64] at this
   omega
 refine ⟨63 - k, by omega, by omega, ?_, ?_⟩
 ·have h1 : (2 : Nat) ^ k * 2 ^ (63 - k) = 9223372036854775808 := by rw [← Nat.pow_add, show k + (63 - k) = 63 from by omega]
  rw [← h1]
  exact Nat.mul_le_mul_right _ l1
 ·have h1 : (2 : Nat) ^ (k + 1) * 2 ^ (63 - k) = 18446744073709551616 := by rw [← Nat.pow_add, show k + 1 + (63 - k) = 64 from by omega]
  rw [← h1]
  exact Nat.mul_lt_mul_of_pos_right l2 (Nat.pow_pos (by decide))
theorem lead64_calls (x : Int) (h0 : 0 ≤ x) (h1 : x ≤ 18446744073709551615) (w : World) :
  Calls Tryz.prog 21 #[.u x] w fun e w' => e = .returned (.i (64 - (Lib.bitLen x.toNat : Int))) ∧ Below w.heap.size w w' := by
 have hb : Lib.bitLen x.toNat ≤ 64 := Lib.bitLenAux_le 64 x.toNat 64 (by rw [W64]; omega)
 have hb1 : 0 ≤ (Lib.bitLen x.toNat : Int) := by omega
 have hb2 : (Lib.bitLen x.toNat : Int) ≤ 64 := by omega
 have HL := Lib.hid (fun W => len64_calls x h0 h1 W)
 generalize (Lib.bitLen x.toNat : Int) = l at hb1 hb2 HL ⊢
 go_enter Tryz.func21, Tryz.ntmps21
 go_wp2_with (go_at_call 33; (with_reducible refine (HL.out _).mono ?_); rintro e w1 ⟨rfl, hb⟩)
 go_ret
 exact ⟨rfl, hb⟩
set_option maxHeartbeats 800000 in
theorem huge_calls (b : Bool) (w : World) :
  Calls Tryz.prog 106 #[.b b] w fun e w' => e = .returned (.agg #[.i 1, .b b, .u 18446744073709551615, .i 1048576]) ∧ Below w.heap.size w w' := by
 go_enter Tryz.func106, Tryz.ntmps106
 go_wp2_with (refine wpList_stG rfl 32 (.tmp 2) (.tmp 4) rfl w.heap.size _ #[.i 1, .b b, .u 18446744073709551615, .i 1048576] (Blk.new w _ _) rfl rfl (by kernel_rfl) rfl (by simp [Value.oneCell']) ?_; intro W1 B1 P1)
 exact bodyPost_ret (results_cell_row rfl _ _ w.heap.size 32 _ (0, 0) _ rfl B1 Tryz.underlying32 rfl (by kernel_rfl)) rfl ⟨rfl, below_put P1⟩
set_option maxHeartbeats 800000 in
theorem tiny_calls (b : Bool) (w : World) :
  Calls Tryz.prog 107 #[.b b] w fun e w' => e = .returned (.agg #[.i 1, .b b, .u 9223372036854775808, .i (-1048576)]) ∧ Below w.heap.size w w' := by
 go_enter Tryz.func107, Tryz.ntmps107
 go_wp2_with (refine wpList_stG rfl 32 (.tmp 2) (.tmp 4) rfl w.heap.size _ #[.i 1, .b b, .u 9223372036854775808, .i (-1048576)] (Blk.new w _ _) rfl rfl (by kernel_rfl) rfl (by simp [Value.oneCell']) ?_; intro W1 B1 P1)
 exact bodyPost_ret (results_cell_row rfl _ _ w.heap.size 32 _ (0, 0) _ rfl B1 Tryz.underlying32 rfl (by kernel_rfl)) rfl ⟨rfl, below_put P1⟩
theorem infN_lit' (b : Bool) (w : World) :
  Calls Tryz.prog 54 #[.b b] w fun e w' => e = .returned (.agg #[.i 2, .b b, .u 0, .i 0]) ∧ Below w.heap.size w w' := infN_calls b w
set_option maxHeartbeats 2000000 in
theorem bound_calls (n : Bool) (m e : Int) (away : Bool) (w : World) :
  Calls Tryz.prog 104 #[.b n, .u m, .i e, .b away] w fun x w' => x = .returned (.agg #[.i (boundN n m e away).k, .b (boundN n m e away).n, .u (boundN n m e away).m, .i (boundN n m e away).e]) ∧ Below w.heap.size w w' := by
 unfold boundN
 by_cases h1 : 1048576 < e
 ·rw [if_pos h1]
  cases away
  ·rw [if_neg (by simp)]
   dsimp only
   have BR := Blk.new w 32 #[.i 0, .b false, .u 0, .i 0]
   have HB0 := bl_alloc (Below.refl w.heap.size w) (.cells #[.i 0, .b false, .u 0, .i 0] 32)
   go_enter Tryz.func104, Tryz.ntmps104
   go_wp2_with (first
    | (go_at_call 106; (with_reducible refine (huge_calls _ _).mono ?_); rintro e' w1 ⟨rfl, hb⟩; have B1 := BR.call hb; have HB1 := bl_trans HB0 hb; clear hb)
    | (refine wpList_stG rfl 32 (.tmp 8) (.tmp 21) rfl w.heap.size _ #[.i 1, .b n, .u 18446744073709551615, .i 1048576] B1 rfl rfl (by kernel_rfl) rfl (by simp [Value.oneCell']) ?_; intro W2 B2 P2; have HB2 := P2.bel HB1 (Nat.le_refl _)))
   exact bodyPost_ret (results_cell_row rfl _ _ w.heap.size 32 _ (0, 0) _ rfl B2 Tryz.underlying32 rfl (by kernel_rfl)) rfl ⟨rfl, HB2⟩
  ·rw [if_pos rfl]
   dsimp only
   have BR := Blk.new w 32 #[.i 0, .b false, .u 0, .i 0]
   have HB0 := bl_alloc (Below.refl w.heap.size w) (.cells #[.i 0, .b false, .u 0, .i 0] 32)
   go_enter Tryz.func104, Tryz.ntmps104
   go_wp2_with (first
    | (go_at_call 54; (with_reducible refine (infN_lit' _ _).mono ?_); rintro e' w1 ⟨rfl, hb⟩; have B1 := BR.call hb; have HB1 := bl_trans HB0 hb; clear hb)
    | (refine wpList_stG rfl 32 (.tmp 8) (.tmp 16) rfl w.heap.size _ #[.i 2, .b n, .u 0, .i 0] B1 rfl rfl (by kernel_rfl) rfl (by simp [Value.oneCell']) ?_; intro W2 B2 P2; have HB2 := P2.bel HB1 (Nat.le_refl _)))
   exact bodyPost_ret (results_cell_row rfl _ _ w.heap.size 32 _ (0, 0) _ rfl B2 Tryz.underlying32 rfl (by kernel_rfl)) rfl ⟨rfl, HB2⟩
 ·rw [if_neg h1]
  by_cases h2 : e < -1048576
  ·rw [if_pos h2]
   cases away
   ·rw [if_neg (by simp)]
    dsimp only
    have BR := Blk.new w 32 #[.i 0, .b false, .u 0, .i 0]
    have HB0 := bl_alloc (Below.refl w.heap.size w) (.cells #[.i 0, .b false, .u 0, .i 0] 32)
    go_enter Tryz.func104, Tryz.ntmps104
    go_wp2_with (refine wpList_stG rfl 32 (.tmp 8) (.tmp 33) rfl w.heap.size _ #[.i 0, .b false, .u 0, .i 0] BR rfl rfl (by kernel_rfl) rfl (by simp [Value.oneCell']) ?_; intro W2 B2 P2; have HB2 := P2.bel HB0 (Nat.le_refl _))
    exact bodyPost_ret (results_cell_row rfl _ _ w.heap.size 32 _ (0, 0) _ rfl B2 Tryz.underlying32 rfl (by kernel_rfl)) rfl ⟨rfl, HB2⟩
   ·rw [if_pos rfl]
    dsimp only
    have BR := Blk.new w 32 #[.i 0, .b false, .u 0, .i 0]
    have HB0 := bl_alloc (Below.refl w.heap.size w) (.cells #[.i 0, .b false, .u 0, .i 0] 32)
    go_enter Tryz.func104, Tryz.ntmps104
    go_wp2_with (first
     | (go_at_call 107; (with_reducible refine (tiny_calls _ _).mono ?_); rintro e' w1 ⟨rfl, hb⟩; have B1 := BR.call hb; have HB1 := bl_trans HB0 hb; clear hb)
     | (refine wpList_stG rfl 32 (.tmp 8) (.tmp 29) rfl w.heap.size _ #[.i 1, .b n, .u 9223372036854775808, .i (-1048576)] B1 rfl rfl (by kernel_rfl) rfl (by simp [Value.oneCell']) ?_; intro W2 B2 P2; have HB2 := P2.bel HB1 (Nat.le_refl _)))
    exact bodyPost_ret (results_cell_row rfl _ _ w.heap.size 32 _ (0, 0) _ rfl B2 Tryz.underlying32 rfl (by kernel_rfl)) rfl ⟨rfl, HB2⟩
  ·rw [if_neg h2]
   dsimp only
   have BR := Blk.new w 32 #[.i 0, .b false, .u 0, .i 0]
   have HB0 := bl_alloc (Below.refl w.heap.size w) (.cells #[.i 0, .b false, .u 0, .i 0] 32)
   go_enter Tryz.func104, Tryz.ntmps104
   go_wp2_with (refine wpList_stG rfl 32 (.tmp 8) (.tmp 37) rfl w.heap.size _ #[.i 1, .b n, .u m, .i e] BR rfl rfl (by kernel_rfl) rfl (by simp [Value.oneCell']) ?_; intro W2 B2 P2; have HB2 := P2.bel HB0 (Nat.le_refl _))
   exact bodyPost_ret (results_cell_row rfl _ _ w.heap.size 32 _ (0, 0) _ rfl B2 Tryz.underlying32 rfl (by kernel_rfl)) rfl ⟨rfl, HB2⟩
set_option maxHeartbeats 2000000 in
theorem grow_calls (n : Bool) (m e : Int) (cut away : Bool) (h0 : 0 ≤ m) (h1 : m < 18446744073709551616) (h2 : -1099511627776 ≤ e) (h3 : e ≤ 1099511627776) (w : World) :
  Calls Tryz.prog 97 #[.b n, .u m, .i e, .b cut, .b away] w fun x w' => x = .returned (.agg #[.i (growN n m e cut away).k, .b (growN n m e cut away).n, .u (growN n m e cut away).m, .i (growN n m e cut away).e]) ∧ Below w.heap.size w w' := by
 unfold growN
 by_cases hca : (cut && away) = true
 ·rw [if_pos hca]
  obtain ⟨rfl, rfl⟩ : cut = true ∧ away = true := by simpa using hca
  by_cases hmx : m = 18446744073709551615
  ·rw [if_pos hmx]
   subst hmx
   have HBd := Lib.hid (fun W => bound_calls n 9223372036854775808 (e + 1) true W)
   generalize boundN n 9223372036854775808 (e + 1) true = r at HBd ⊢
   clear hca
   have BR := Blk.new w 32 #[.i 0, .b false, .u 0, .i 0]
   have HB0 := bl_alloc (Below.refl w.heap.size w) (.cells #[.i 0, .b false, .u 0, .i 0] 32)
   go_enter Tryz.func97, Tryz.ntmps97
   go_wp2_with (first
    | (go_at_call 104; (with_reducible refine (HBd.out _).mono ?_); rintro e' w1 ⟨rfl, hb⟩; have B1 := BR.call hb; have HB1 := bl_trans HB0 hb; clear hb)
    | (refine wpList_stG rfl 32 (.tmp 10) (.tmp 25) rfl w.heap.size _ #[.i r.k, .b r.n, .u r.m, .i r.e] B1 rfl rfl (by kernel_rfl) rfl (by simp [Value.oneCell']) ?_; intro W2 B2 P2; have HB2 := P2.bel HB1 (Nat.le_refl _)))
   exact bodyPost_ret (results_cell_row rfl _ _ w.heap.size 32 _ (0, 0) _ rfl B2 Tryz.underlying32 rfl (by kernel_rfl)) rfl ⟨rfl, HB2⟩
  ·rw [if_neg hmx]
   have hm2 : m + 1 < 18446744073709551616 := by omega
   have hm3 : ¬ (m + 1 = 0) := by omega
   have hm4 : (m + 1 == 0) = false := beq_eq_false_iff_ne.2 hm3
   have HBd := Lib.hid (fun W => bound_calls n (m + 1) e true W)
   generalize boundN n (m + 1) e true = r at HBd ⊢
   clear hca
   have BR := Blk.new w 32 #[.i 0, .b false, .u 0, .i 0]
   have HB0 := bl_alloc (Below.refl w.heap.size w) (.cells #[.i 0, .b false, .u 0, .i 0] 32)
   go_enter Tryz.func97, Tryz.ntmps97
   go_wp2_with (first
    | (go_at_call 104; (with_reducible refine (HBd.out _).mono ?_); rintro e' w1 ⟨rfl, hb⟩; have B1 := BR.call hb; have HB1 := bl_trans HB0 hb; clear hb)
    | (refine wpList_stG rfl 32 (.tmp 10) (.tmp 25) rfl w.heap.size _ #[.i r.k, .b r.n, .u r.m, .i r.e] B1 rfl rfl (by kernel_rfl) rfl (by simp [Value.oneCell']) ?_; intro W2 B2 P2; have HB2 := P2.bel HB1 (Nat.le_refl _)))
   exact bodyPost_ret (results_cell_row rfl _ _ w.heap.size 32 _ (0, 0) _ rfl B2 Tryz.underlying32 rfl (by kernel_rfl)) rfl ⟨rfl, HB2⟩
 ·rw [if_neg hca]
  have HBd := Lib.hid (fun W => bound_calls n m e away W)
  generalize boundN n m e away = r at HBd ⊢
  cases cut
  ·clear hca
   have BR := Blk.new w 32 #[.i 0, .b false, .u 0, .i 0]
   have HB0 := bl_alloc (Below.refl w.heap.size w) (.cells #[.i 0, .b false, .u 0, .i 0] 32)
   go_enter Tryz.func97, Tryz.ntmps97
   go_wp2_with (first
    | (go_at_call 104; (with_reducible refine (HBd.out _).mono ?_); rintro e' w1 ⟨rfl, hb⟩; have B1 := BR.call hb; have HB1 := bl_trans HB0 hb; clear hb)
    | (refine wpList_stG rfl 32 (.tmp 10) (.tmp 25) rfl w.heap.size _ #[.i r.k, .b r.n, .u r.m, .i r.e] B1 rfl rfl (by kernel_rfl) rfl (by simp [Value.oneCell']) ?_; intro W2 B2 P2; have HB2 := P2.bel HB1 (Nat.le_refl _)))
   exact bodyPost_ret (results_cell_row rfl _ _ w.heap.size 32 _ (0, 0) _ rfl B2 Tryz.underlying32 rfl (by kernel_rfl)) rfl ⟨rfl, HB2⟩
  ·obtain rfl : away = false := by simpa using hca
   clear hca
   have BR := Blk.new w 32 #[.i 0, .b false, .u 0, .i 0]
   have HB0 := bl_alloc (Below.refl w.heap.size w) (.cells #[.i 0, .b false, .u 0, .i 0] 32)
   go_enter Tryz.func97, Tryz.ntmps97
   go_wp2_with (first
    | (go_at_call 104; (with_reducible refine (HBd.out _).mono ?_); rintro e' w1 ⟨rfl, hb⟩; have B1 := BR.call hb; have HB1 := bl_trans HB0 hb; clear hb)
    | (refine wpList_stG rfl 32 (.tmp 10) (.tmp 25) rfl w.heap.size _ #[.i r.k, .b r.n, .u r.m, .i r.e] B1 rfl rfl (by kernel_rfl) rfl (by simp [Value.oneCell']) ?_; intro W2 B2 P2; have HB2 := P2.bel HB1 (Nat.le_refl _)))
   exact bodyPost_ret (results_cell_row rfl _ _ w.heap.size 32 _ (0, 0) _ rfl B2 Tryz.underlying32 rfl (by kernel_rfl)) rfl ⟨rfl, HB2⟩
def subEntry : Array Value → Sem Value := fun args => do
 let (x, y, b) ← Extern.MathBitsCarry.three "Sub64" args
 pure (Extern.MathBitsCarry.pair ((x + Extern.MathBitsCarry.m64 - y - b) % Extern.MathBitsCarry.m64) (if x < y + b then 1 else 0))
theorem run_subEntry (x y b : Nat) (hb : b ≤ 1) (w : World) :
  (subEntry #[.u x, .u y, .u b]).run Tryz.prog w = .ok (.tuple #[.u (((x + 18446744073709551616 - y - b) % 18446744073709551616 : Nat) : Int), .u ((if x < y + b then 1 else 0 : Nat) : Int)]) w := by
 have : b = 0 ∨ b = 1 := by omega
 rcases this with rfl | rfl <;> rfl
theorem add64_run (x y c : Nat) (hc : c ≤ 1) (w : World) :
  (callFunc 96 #[.u x, .u y, .u c]).run Tryz.prog w = .ok (.value (.tuple #[.u (((x + y + c) % 18446744073709551616 : Nat) : Int), .u (((x + y + c) / 18446744073709551616 : Nat) : Int)])) w := by
 rw [run_callFunc_extern Tryz.func96 (by kernel_rfl) (by kernel_rfl) (by kernel_rfl) (e := add64Entry) (by kernel_rfl), run_add64 x y c (by omega) (by omega) (by omega) (by omega)]
 simp only [Result.andThen]
 congr 5 <;> omega
theorem sub64_run (x y b : Nat) (hb : b ≤ 1) (w : World) :
  (callFunc 98 #[.u x, .u y, .u b]).run Tryz.prog w = .ok (.value (.tuple #[.u (((x + 18446744073709551616 - y - b) % 18446744073709551616 : Nat) : Int), .u ((if x < y + b then 1 else 0 : Nat) : Int)])) w := by
 rw [run_callFunc_extern Tryz.func98 (by kernel_rfl) (by kernel_rfl) (by kernel_rfl) (e := subEntry) (by kernel_rfl), run_subEntry x y b hb]
 rfl
end Go.Proofs.YteabdeohhmbclaaGreat.Wk
namespace Go.Proofs.YteabdeohhmbclaaGreat.Wk
open Go.RowKit Go.Proofs.Pl Go.Proofs.YteabdeohhmbclaaGreatW.PrintLast
set_option linter.unusedSimpArgs false
set_option linter.unusedVariables false

theorem wrap_i {n : Int} (h0 : -9223372036854775808 ≤ n) (h1 : n < 9223372036854775808) : IntKind.i64.wrap n = n := by
 unfold IntKind.wrap
 simp only [IntKind.bits, IntKind.signed, Bool.true_and, ge_iff_le, decide_eq_true_eq]
 split <;> omega
theorem wrap_u (n : Int) : IntKind.u64.wrap n = n % 18446744073709551616 := rfl
theorem cast_shr (m k : Nat) : (m : Int) / 2 ^ k = ((m / 2 ^ k : Nat) : Int) := by rw [Int.natCast_ediv, Int.natCast_pow]; rfl
theorem cast_shl (m k : Nat) : IntKind.u64.wrap ((m : Int) * 2 ^ k) = ((m * 2 ^ k % 18446744073709551616 : Nat) : Int) := by
 rw [wrap_u, Int.natCast_emod, Int.natCast_mul, Int.natCast_pow]; rfl
set_option maxRecDepth 100000 in
set_option maxHeartbeats 2000000 in
theorem lower_calls (m d : Nat) (hm : m < 18446744073709551616) (hd : d ≤ 4194304) (w : World) :
  Calls Tryz.prog 95 #[.u m, .i d] w fun x w' => x = .returned (.agg #[.u (lowHi m d), .u (lowLo m d), .b (lowCut m d)]) ∧ Below w.heap.size w w' := by
 have BR := (Blk.new w 125 #[.u 0, .u 0, .b false])
 have HB0 := bl_alloc (Below.refl w.heap.size w) (.cells #[.u 0, .u 0, .b false] 125)
 by_cases h1 : d < 64
 ·have h1i : (d : Int) < 64 := by omega
  have hw : IntKind.i64.wrap (64 - (d : Int)) = ((64 - d : Nat) : Int) := by rw [wrap_i (by omega) (by omega)]; omega
  have hv : (m : Int) / 2 ^ d = (lowHi m d : Int) := by unfold lowHi; rw [if_pos h1]; exact cast_shr m d
  have hs : IntKind.u64.wrap ((m : Int) * 2 ^ (64 - d)) = (lowLo m d : Int) := by unfold lowLo; rw [if_pos h1]; exact cast_shl m (64 - d)
  have hc : lowCut m d = false := by unfold lowCut; rw [if_pos h1]
  rw [hc]
  generalize lowHi m d = hi at hv ⊢
  generalize lowLo m d = lo at hs ⊢
  go_enter Tryz.func95, Tryz.ntmps95
  go_wp2_with fail
  refine start_ (n := 9) (S := fun w' => True) (ds := [8]) (bq 9 0) (by kernel_rfl) rfl rfl trivial (fun hHeld => ?_)
  refine pu 0 8 (bq 9 1) ?_ ?_ (fun _ => ?_) ?_ ?_
  rotate_left 2
  ·go_simp
   with_reducible rfl
  ·simp only [Act.put, pA, pB, pC]
   rfl
  refine pu 1 9 (bq 9 3) ?_ ?_ (fun _ => ?_) ?_ ?_
  rotate_left 2
  ·go_simp
   with_reducible rfl
  ·simp only [Act.put, pA, pB, pC]
   rfl
  refine pu 2 10 (bq 9 7) ?_ ?_ (fun _ => ?_) ?_ ?_
  rotate_left 2
  ·go_simp
   with_reducible rfl
  ·simp only [Act.put, pA, pB, pC]
   rfl
  refine pu 3 11 (bq 9 15) ?_ ?_ (fun _ => ?_) ?_ ?_
  rotate_left 2
  ·go_simp
   with_reducible rfl
  ·simp only [Act.put, pA, pB, pC]
   rfl
  refine pu 4 12 (bq 9 31) ?_ ?_ (fun _ => ?_) ?_ ?_
  rotate_left 2
  ·go_simp
   with_reducible rfl
  ·simp only [Act.put, pA, pB, pC]
   rfl
  refine pu 5 13 (bq 9 63) ?_ ?_ (fun _ => ?_) ?_ ?_
  rotate_left 2
  ·go_simp
   with_reducible rfl
  ·simp only [Act.put, pA, pB, pC]
   rfl
  refine pu 6 14 (bq 9 127) ?_ ?_ (fun _ => ?_) ?_ ?_
  rotate_left 2
  ·go_simp
   with_reducible rfl
  ·simp only [Act.put, pA, pB, pC]
   rfl
  refine pu 7 15 (bq 9 255) ?_ ?_ (fun _ => ?_) ?_ ?_
  rotate_left 2
  ·go_simp
   with_reducible rfl
  ·simp only [Act.put, pA, pB, pC]
   rfl
  refine last_ (i := 8) (N := none) (bq 9 511) rfl rfl (by kernel_rfl) (by decide) (fun K hK => ?_)
  refine skip_ (w1 := ?_) (by rfl) rfl ?_ ?_
  rotate_left
  ·go_simp
   rfl
  refine hK.out _ _ ?_
  clear hK K
  refine done_ (by kernel_rfl) ?_
  go_wp2
  exact bodyPost_ret (results_cell_row rfl _ _ w.heap.size 125 _ (0, 0) _ rfl (Blk.new w 125 #[.u hi, .u lo, .b false]).drew Tryz.underlying125 rfl (by kernel_rfl)) rfl ⟨rfl, bl_drew (bl_alloc (Below.refl _ _) _)⟩
 ·have h1i : ¬ (d : Int) < 64 := by omega
  by_cases h2 : d < 128
  ·obtain ⟨f, rfl⟩ : ∃ f, d = f + 64 := ⟨d - 64, by omega⟩
   have hf : f < 64 := by omega
   have h2i : ((f + 64 : Nat) : Int) < 128 := by omega
   have hsub : ((f + 64 : Nat) : Int) - 64 = (f : Int) := by omega
   have hw : IntKind.i64.wrap (64 - (f : Int)) = ((64 - f : Nat) : Int) := by rw [wrap_i (by omega) (by omega)]; omega
   have hhi : lowHi m (f + 64) = 0 := by unfold lowHi; rw [if_neg h1]
   have hv : (m : Int) / 2 ^ f = (lowLo m (f + 64) : Int) := by unfold lowLo; rw [if_neg h1, if_pos h2, Nat.add_sub_cancel]; exact cast_shr m f
   have hs : IntKind.u64.wrap ((m : Int) * 2 ^ (64 - f)) = ((m * 2 ^ (64 - f) % 18446744073709551616 : Nat) : Int) := cast_shl m (64 - f)
   have hc : lowCut m (f + 64) = (((m * 2 ^ (64 - f) % 18446744073709551616 : Nat) : Int) != 0) := by
    unfold lowCut
    rw [if_neg h1, if_pos h2, show 128 - (f + 64) = 64 - f from by omega]
    rw [Bool.eq_iff_iff, decide_eq_true_iff, bne_iff_ne]
    omega
   rw [hhi, hc]
   generalize lowLo m (f + 64) = lo at hv ⊢
   generalize m * 2 ^ (64 - f) % 18446744073709551616 = z at hs ⊢
   generalize hD : ((f + 64 : Nat) : Int) = D at h1i h2i hsub ⊢
   have hD0 : 64 ≤ D := by omega
   clear hD hc hhi
   go_enter Tryz.func95, Tryz.ntmps95
   go_wp2_with fail
   refine start_ (n := 10) (S := fun w' => True) (ds := [9]) (bq 10 0) (by kernel_rfl) rfl rfl trivial (fun hHeld => ?_)
   refine pu 0 21 (bq 10 1) ?_ ?_ (fun _ => ?_) ?_ ?_
   rotate_left 2
   ·go_simp
    with_reducible rfl
   ·simp only [Act.put, pA, pB, pC]
    rfl
   refine pu 1 22 (bq 10 3) ?_ ?_ (fun _ => ?_) ?_ ?_
   rotate_left 2
   ·go_simp
    with_reducible rfl
   ·simp only [Act.put, pA, pB, pC]
    rfl
   refine pu 2 23 (bq 10 7) ?_ ?_ (fun _ => ?_) ?_ ?_
   rotate_left 2
   ·go_simp
    with_reducible rfl
   ·simp only [Act.put, pA, pB, pC]
    rfl
   refine pu 3 24 (bq 10 15) ?_ ?_ (fun _ => ?_) ?_ ?_
   rotate_left 2
   ·go_simp
    with_reducible rfl
   ·simp only [Act.put, pA, pB, pC]
    rfl
   refine pu 4 25 (bq 10 31) ?_ ?_ (fun _ => ?_) ?_ ?_
   rotate_left 2
   ·go_simp
    with_reducible rfl
   ·simp only [Act.put, pA, pB, pC]
    rfl
   refine pu 5 26 (bq 10 63) ?_ ?_ (fun _ => ?_) ?_ ?_
   rotate_left 2
   ·go_simp
    with_reducible rfl
   ·simp only [Act.put, pA, pB, pC]
    rfl
   refine pu 6 27 (bq 10 127) ?_ ?_ (fun _ => ?_) ?_ ?_
   rotate_left 2
   ·go_simp
    with_reducible rfl
   ·simp only [Act.put, pA, pB, pC]
    rfl
   refine pu 7 28 (bq 10 255) ?_ ?_ (fun _ => ?_) ?_ ?_
   rotate_left 2
   ·go_simp
    with_reducible rfl
   ·simp only [Act.put, pA, pB, pC]
    rfl
   refine pu 8 29 (bq 10 511) ?_ ?_ (fun _ => ?_) ?_ ?_
   rotate_left 2
   ·go_simp
    with_reducible rfl
   ·simp only [Act.put, pA, pB, pC]
    rfl
   refine last_ (i := 9) (N := none) (bq 10 1023) rfl rfl (by kernel_rfl) (by decide) (fun K hK => ?_)
   refine skip_ (w1 := ?_) (by rfl) rfl ?_ ?_
   rotate_left
   ·go_simp
    rfl
   refine hK.out _ _ ?_
   clear hK K
   refine done_ (by kernel_rfl) ?_
   go_wp2
   exact bodyPost_ret (results_cell_row rfl _ _ w.heap.size 125 _ (0, 0) _ rfl (Blk.new w 125 #[.u 0, .u lo, .b ((z : Int) != 0)]).drew Tryz.underlying125 rfl (by kernel_rfl)) rfl ⟨rfl, bl_drew (bl_alloc (Below.refl _ _) _)⟩
  ·have h2i : ¬ (d : Int) < 128 := by omega
   have hhi : lowHi m d = 0 := by unfold lowHi; rw [if_neg h1]
   have hlo : lowLo m d = 0 := by unfold lowLo; rw [if_neg h1, if_neg h2]
   have hc : lowCut m d = true := by unfold lowCut; rw [if_neg h1, if_neg h2]
   rw [hhi, hlo, hc]
   go_enter Tryz.func95, Tryz.ntmps95
   go_wp2_with (refine wpList_stG rfl 125 (.tmp 4) (.tmp 30) rfl w.heap.size _ #[.u 0, .u 0, .b true] BR rfl rfl (by kernel_rfl) rfl (by simp [Value.oneCell']) ?_; intro W2 B2 P2; have HB2 := P2.bel HB0 (Nat.le_refl _))
   exact bodyPost_ret (results_cell_row rfl _ _ w.heap.size 125 _ (0, 0) _ rfl B2 Tryz.underlying125 rfl (by kernel_rfl)) rfl ⟨rfl, HB2⟩
end Go.Proofs.YteabdeohhmbclaaGreat.Wk
