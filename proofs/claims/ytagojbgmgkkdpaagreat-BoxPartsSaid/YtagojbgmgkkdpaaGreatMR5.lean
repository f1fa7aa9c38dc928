import Derived.Test.YtagojbgmgkkdpaaGreatMD3
import Derived.Test.YtagojbgmgkkdpaaGreatMRa
/- Walks: the reference's limbs, finite, word. -/
namespace Go.Proofs.YtagojbgmgkkdpaaGreat.Wk
open Go.RowKit Go.Proofs.Pl Go.Proofs.YtagojbgmgkkdpaaGreatW.PrintLast
set_option linter.unusedSimpArgs false
set_option linter.unusedVariables false

theorem SlU.lit2 {w : World} {g B : Nat} {T : TypeId} {x y : Int} (h : Blk w g T #[.int .u32 x, .int .u32 y]) (h0 : 0 ≤ x ∧ x < 4294967296) (h1 : 0 ≤ y ∧ y < 4294967296) (hB : g < B) : SlU w B (some ⟨g, 0, none⟩) 2 [x, y] :=
 ⟨rfl, fun d hd => by simp at hd; rcases hd with rfl | rfl; exact h0; exact h1, fun _ => ⟨g, 0, rfl, hB, fun i z hz => by
  match i, hz with
  | 0, hz => simp only [List.getElem?_cons_zero, Option.some.injEq] at hz; subst hz; exact h.cell 0
  | 1, hz => simp only [List.getElem?_cons_succ, List.getElem?_cons_zero, Option.some.injEq] at hz; subst hz; exact h.cell 1
  | i + 2, hz => simp at hz⟩⟩
set_option maxHeartbeats 2000000 in
theorem r5limbs_calls (m : Int) (h0 : 0 ≤ m) (h1 : m < 18446744073709551616) (w : World) :
  Calls Tryz.prog 127 #[.int .u64 m] w fun e w' => ∃ A xs, e = .returned (.slice A 2 2) ∧ SlU w' w'.heap.size A 2 xs ∧ valL xs = m.toNat ∧ Below w.heap.size w w' := by
 go_enter Tryz.func127, Tryz.ntmps127
 go_wp2
 go_ret
 refine ⟨_, _, rfl, SlU.lit2 (Blk.new w _ _) (by omega) (by omega) (by simp), ?_, bl_alloc (Below.refl _ _) _⟩
 simp only [valL]
 omega
set_option maxHeartbeats 2000000 in
theorem r5fin_calls (n : Bool) (m e : Int) (up : Bool) (w : World) :
  Calls Tryz.prog 129 #[.bool n, .int .u64 m, .int .i64 e, .bool up] w fun en w' => en = .returned (.agg #[.int .i64 (boundN n m e up).k, .bool (boundN n m e up).n, .int .u64 (boundN n m e up).m, .int .i64 (boundN n m e up).e]) ∧ Below w.heap.size w w' := by
 by_cases h1 : 1048576 < e
 ·cases up
  ·go_enter Tryz.func129, Tryz.ntmps129
   go_wp2
   refine bodyPost_ret (v := _) (by simp [results, Tryz.results129, go_sem]; rfl) rfl ⟨?_, ?_⟩
   ·simp [boundN, h1]
   ·repeat (first | exact Below.refl _ _ | refine bl_set ?_ (by simp) _ | apply bl_alloc)
  ·go_enter Tryz.func129, Tryz.ntmps129
   go_wp2_with (go_at_call 107; (refine (rinfN_calls _ _).mono ?_); rintro e1 w1 ⟨rfl, hb⟩; have HB := bl_trans (bl_alloc (Below.refl w.heap.size w) _) hb; have hz := hb.size; obtain ⟨hc, hf⟩ := bcell hb; clear hb)
   refine bodyPost_ret (v := _) (by simp [results, Tryz.results129, go_sem, hc]; rfl) rfl ⟨?_, ?_⟩
   ·simp [boundN, infN, h1]
   ·repeat (first | exact HB | refine bl_set ?_ (by simp) _ | apply bl_alloc)
 ·by_cases h2 : e < -1048576
  ·cases up
   all_goals go_enter Tryz.func129, Tryz.ntmps129
   all_goals go_wp2
   all_goals refine bodyPost_ret (v := _) (by simp [results, Tryz.results129, go_sem]; rfl) rfl ⟨?_, ?_⟩
   all_goals first
    | (unfold boundN; rw [if_neg (show ¬ 1048576 < e by omega), if_pos h2]; simp; done)
    | (repeat (first | exact Below.refl _ _ | refine bl_set ?_ (by simp) _ | apply bl_alloc))
  ·go_enter Tryz.func129, Tryz.ntmps129
   go_wp2
   refine bodyPost_ret (v := _) (by simp [results, Tryz.results129, go_sem]; rfl) rfl ⟨?_, ?_⟩
   ·have h1' : ¬ 1048576 < e := by omega
    have h2' : ¬ e < -1048576 := by omega
    unfold boundN; rw [if_neg h1', if_neg h2']
   ·repeat (first | exact Below.refl _ _ | refine bl_set ?_ (by simp) _ | apply bl_alloc)
theorem word_step {xs : List Int} {k : Nat} {x : Int} (h : Lim xs) (hx : xs[k]? = some x) (hl : xs.length ≤ 2) : valL (xs.drop k) = x.toNat + 4294967296 * valL (xs.drop (k + 1)) ∧ valL (xs.drop (k + 1)) < 4294967296 := by
 refine ⟨?_, ?_⟩
 ·rw [List.drop_eq_getElem?_toList_append, hx]; rfl
 ·have := valL_lt (h.drop (k + 1))
  have hk : k < xs.length := (List.getElem?_eq_some_iff.1 hx).1
  refine Nat.lt_of_lt_of_le this ?_
  have e : (xs.drop (k + 1)).length ≤ 1 := by rw [List.length_drop]; omega
  exact Nat.le_trans (Nat.pow_le_pow_right (by decide) e) (by decide)
set_option maxHeartbeats 2000000 in
theorem r5word_calls (A : Option Addr) (n c : Nat) (xs : List Int) (w : World) (hs : SlU w w.heap.size A n xs) (hn : n ≤ 2) (hc : n ≤ c) :
  Calls Tryz.prog 130 #[.slice A n c] w fun e w' => e = .returned (.int .u64 (valL xs)) ∧ w' = w := by
 go_enter Tryz.func130, Tryz.ntmps130
 go_wp2
 go_loopw [3, 4] (fun v i wr => ∃ (k : Nat), k ≤ n ∧ i = .int .i64 ((k : Int) - 1) ∧ v = .int .u64 (valL (xs.drop k)) ∧ wr = w) (fun _ i _ => (intOf i + 1).toNat)
 case atStart => exact ⟨n, Nat.le_refl _, by go_num, by rw [List.drop_eq_nil_of_le (by rw [hs.1]; exact Nat.le_refl _)]; rfl, rfl⟩
 case round =>
  obtain ⟨k, hk, rfl, rfl, rfl⟩ := hrel
  rcases Nat.eq_zero_or_pos k with h0 | h0
  ·subst h0
   go_wp2
   go_ret
   exact ⟨by simp, rfl⟩
  ·obtain ⟨j, rfl⟩ : ∃ j, k = j + 1 := ⟨k - 1, by omega⟩
   obtain ⟨b, off, x, rfl, hbB, hx, ⟨x0, x1⟩, e0⟩ := hs.at_ (k := j) (by omega)
   have hst := word_step hs.2.1 hx (by rw [hs.1]; exact hn)
   have ej : (((j + 1 : Nat) : Int) - 1) = j := by omega
   rw [ej]
   have hjn : j < n := by omega
   replace hst := Lib.hid hst
   replace hx := Lib.hid hx
   clear hs
   generalize valL (xs.drop (j + 1)) = V at hst ⊢
   have hV := hst.out.2
   go_wp2
   refine ⟨⟨j, by omega, by go_num, ?_, by trivial⟩, by simp [intOf]⟩
   have := hst.out.1
   rw [this]
   go_num
end Go.Proofs.YtagojbgmgkkdpaaGreat.Wk

/- Walk: the reference's Round. -/
namespace Go.Proofs.YtagojbgmgkkdpaaGreat.Wk
open Go.RowKit Go.Proofs.Pl Go.Proofs.YtagojbgmgkkdpaaGreatW.PrintLast
set_option linter.unusedSimpArgs false
set_option linter.unusedVariables false

theorem blen_two (T : Nat) (h1 : T < 18446744073709551616) : (T = 18446744073709551615 → blen (T + 1) = 65) ∧ (T ≠ 18446744073709551615 → blen (T + 1) ≤ 64) := by
 refine ⟨fun h => by subst h; decide +kernel, fun h => ?_⟩
 exact blen_le (k := 64) (by rw [show (2 : Nat) ^ 64 = 18446744073709551616 from by decide]; omega)
theorem digs_two {M n : Nat} (hM : M < 18446744073709551616) (h : (digs M).length = n) : n ≤ 2 := by
 rw [← h]
 exact digs_len (k := 2) (by rw [show (4294967296 : Nat) ^ 2 = 18446744073709551616 from by decide]; exact hM)
/-- what Round's four ways lead to, for an odd number -/
theorem round_ways (neg : Bool) (O : Nat) (e : Int) (up : Bool) (h : O % 2 = 1) (r : Num) (hr : roundAt neg O e up = r) :
  (blen O ≤ 64 ∧ O * 2 ^ (64 - blen O) < 18446744073709551616 ∧ boundN neg ((O * 2 ^ (64 - blen O) : Nat) : Int) (e + (blen O : Int) - 64) (up != neg) = r) ∨
  (64 < blen O ∧ O / 2 ^ (blen O - 64) < 18446744073709551616 ∧ (up != neg) = false ∧ boundN neg ((O / 2 ^ (blen O - 64) : Nat) : Int) (e + (blen O : Int) - 64) false = r) ∨
  (64 < blen O ∧ O / 2 ^ (blen O - 64) = 18446744073709551615 ∧ (up != neg) = true ∧ boundN neg 9223372036854775808 (e + (blen O : Int) - 64 + 1) true = r) ∨
  (64 < blen O ∧ O / 2 ^ (blen O - 64) + 1 < 18446744073709551616 ∧ blen (O / 2 ^ (blen O - 64) + 1) ≤ 64 ∧ (up != neg) = true ∧ boundN neg ((O / 2 ^ (blen O - 64) + 1 : Nat) : Int) (e + (blen O : Int) - 64) true = r) := by
 obtain ⟨q1, q2⟩ := round_odd neg O e up h
 rw [hr] at q1 q2
 by_cases hl : blen O ≤ 64
 ·obtain ⟨a, b⟩ := q1 hl
  exact .inl ⟨hl, b, a.symm⟩
 ·obtain ⟨a, b, d⟩ := q2 (by omega)
  by_cases hu : (up != neg) = true
  ·rw [if_pos hu] at d
   by_cases hm : O / 2 ^ (blen O - 64) = 18446744073709551615
   ·rw [if_pos hm] at d
    exact .inr (.inr (.inl ⟨by omega, hm, hu, d.symm⟩))
   ·rw [if_neg hm] at d
    exact .inr (.inr (.inr ⟨by omega, by omega, (blen_two _ a).2 hm, hu, d.symm⟩))
  ·rw [if_neg hu] at d
   exact .inr (.inl ⟨by omega, a, by simpa using hu, d.symm⟩)
set_option maxRecDepth 100000 in
set_option maxHeartbeats 4000000 in
theorem r5round_calls (neg : Bool) (A : Option Addr) (n c : Nat) (xs : List Int) (e : Int) (up : Bool) (w : World) (hs : SlU w w.heap.size A n xs) (hn : n ≤ 1000) (hc : n ≤ c) (he : -100000 ≤ e) (he2 : e ≤ 100000) :
  Calls Tryz.prog 110 #[.agg #[.bool neg, .slice A n c, .int .i64 e], .bool up] w fun en w' => en = .returned (.agg #[.int .i64 (roundAt neg (valL xs) e up).k, .bool (roundAt neg (valL xs) e up).n, .int .u64 (roundAt neg (valL xs) e up).m, .int .i64 (roundAt neg (valL xs) e up).e]) ∧ Below w.heap.size w w' := by
 have hlt : valL xs < 2 ^ (32 * n) := by rw [← pow32, ← hs.1]; exact valL_lt hs.2.1
 have HMa := (fun W h => r3make_calls neg A n c xs e W h (by omega) hc (by omega) (by omega))
 replace hs := Lib.hid hs
 generalize valL xs = N at HMa hlt ⊢
 have hpe := dyE_bd hlt he he2
 have hrd := round_dy neg N e up
 have hO2 : ∀ n', (digs (oddN N)).length = n' → n' ≤ 1000 := fun n' h => Nat.le_trans (len_one (k := n) (odd_lt' hlt (Nat.le_refl _)) (Nat.le_refl _) h) hn
 replace hO2 := Lib.hid hO2
 have hBl : blen (oddN N) ≤ 32 * n := blen_le (odd_lt' hlt (Nat.le_refl _))
 have HZ : N = 0 → roundAt neg N e up = zero := fun h => by rw [h]; rfl
 generalize roundAt neg N e up = r at hrd HZ ⊢
 have BR : Blk _ (w.heap.size + 1) 37 #[.int .i64 0, .bool false, .int .u64 0, .int .i64 0] := Blk.new1 w (.cells #[.bool neg, .slice A n c, .int .i64 e] 128) _ _
 have HBd := (bl_alloc (bl_alloc (Below.refl w.heap.size w) (.cells #[.bool neg, .slice A n c, .int .i64 e] 128)) (.cells #[.int .i64 0, .bool false, .int .u64 0, .int .i64 0] 37))
 unfold RetDy at HMa
 rcases Nat.eq_zero_or_pos N with hN | hN
 ·rw [HZ hN]
  subst hN
  rw [oddN_zero, digs_zero, dyE_zero, show decide ((0 : Nat) < 0) = false from rfl, Bool.and_false] at HMa
  replace HMa := Lib.hid HMa
  clear hlt hpe hrd hBl HZ
  show Calls Tryz.prog 110 #[.agg #[.bool neg, .slice A n c, .int .i64 e], .bool up] w fun en w' => en = .returned (.agg #[.int .i64 0, .bool false, .int .u64 0, .int .i64 0]) ∧ Below w.heap.size w w'
  go_enter Tryz.func110, Tryz.ntmps110
  go_wp2_with (go_at_call 125; (with_reducible refine (HMa.out _ (hs.out.on HBd)).mono ?_); rintro e1 w1 ⟨A1, n1, c1, rfl, hc1, S1, hb1⟩; obtain rfl : n1 = 0 := S1.1.symm; replace BR := BR.call hb1; replace HBd := bl_trans HBd hb1; have hlr := BR.lt; obtain ⟨z0, z1, z2, z3⟩ : w1.cell? ⟨w.heap.size + 1, 0, none⟩ = some (.int .i64 0) ∧ w1.cell? ⟨w.heap.size + 1, 1, none⟩ = some (.bool false) ∧ w1.cell? ⟨w.heap.size + 1, 2, none⟩ = some (.int .u64 0) ∧ w1.cell? ⟨w.heap.size + 1, 3, none⟩ = some (.int .i64 0) := ⟨BR.cell 0, BR.cell 1, BR.cell 2, BR.cell 3⟩; obtain ⟨f0, f1, f2, f3⟩ : w1.frozen? ⟨w.heap.size + 1, 0, none⟩ = false ∧ w1.frozen? ⟨w.heap.size + 1, 1, none⟩ = false ∧ w1.frozen? ⟨w.heap.size + 1, 2, none⟩ = false ∧ w1.frozen? ⟨w.heap.size + 1, 3, none⟩ = false := ⟨BR.frozen 0, BR.frozen 1, BR.frozen 2, BR.frozen 3⟩)
  have B2 := ((((BR.set_ 0 (.int .i64 0)).set_ 1 (.bool false)).set_ 2 (.int .u64 0)).set_ 3 (.int .i64 0)).alloc (.cells #[.bool false, .slice A1 0 c1, .int .i64 0] 128)
  have HB2 := bl_alloc ((((HBd.setCell (p := ⟨w.heap.size + 1, 0, none⟩) (by show w.heap.size ≤ w.heap.size + 1; omega) (.int .i64 0)).setCell (p := ⟨w.heap.size + 1, 1, none⟩) (by show w.heap.size ≤ w.heap.size + 1; omega) (.bool false)).setCell (p := ⟨w.heap.size + 1, 2, none⟩) (by show w.heap.size ≤ w.heap.size + 1; omega) (.int .u64 0)).setCell (p := ⟨w.heap.size + 1, 3, none⟩) (by show w.heap.size ≤ w.heap.size + 1; omega) (.int .i64 0)) (.cells #[.bool false, .slice A1 0 c1, .int .i64 0] 128)
  exact bodyPost_ret (results_cell_row rfl _ _ (w.heap.size + 1) 37 _ (0, 0) _ rfl B2 Tryz.underlying37 rfl (by kernel_rfl)) rfl ⟨rfl, HB2⟩
 ·rw [decide_eq_true hN, Bool.and_true] at HMa
  have hodd := oddN_odd hN
  have HL : ∀ A1 n1 c1 (W : World), SlU W W.heap.size A1 n1 (digs (oddN N)) → n1 ≤ 1000 → n1 ≤ c1 → Calls Tryz.prog 128 #[.slice A1 n1 c1] W fun e w' => e = .returned (.int .i64 (blen (oddN N))) ∧ Below W.heap.size W w' := fun A1 n1 c1 W h hn hc => by
   have := r1len_calls A1 n1 c1 _ W h (by omega) hc
   rwa [valL_digs] at this
  have hways := round_ways neg (oddN N) (dyE N e) up hodd r hrd
  obtain ⟨r0, r1, r2, r3⟩ := r
  show Calls Tryz.prog 110 #[.agg #[.bool neg, .slice A n c, .int .i64 e], .bool up] w fun en w' => en = .returned (.agg #[.int .i64 r0, .bool r1, .int .u64 r2, .int .i64 r3]) ∧ Below w.heap.size w w'
  generalize hpE : dyE N e = pe at HMa hways hpe
  have HW : ∀ (M : Nat) A3 n3 c3 (W : World), SlU W W.heap.size A3 n3 (digs M) → n3 ≤ 2 → n3 ≤ c3 → Calls Tryz.prog 130 #[.slice A3 n3 c3] W fun e w' => e = .returned (.int .u64 M) ∧ w' = W := fun M A3 n3 c3 W h hn hc => by
   have := r5word_calls A3 n3 c3 _ W h hn hc
   rwa [valL_digs] at this
  rcases hways with ⟨w1, w2, w3⟩ | ⟨w1, w2, w3, w4⟩ | ⟨w1, w2, w3, w4⟩ | ⟨w1, w2, w3, w4, w5⟩
  ·have HSh := (fun A1 n1 c1 W h hn hc => r1shl_calls A1 n1 c1 (64 - blen (oddN N)) (digs (oddN N)) W h hn hc (by omega))
   rw [valL_digs] at HSh
   have HF := fun W => r5fin_calls neg ((oddN N * 2 ^ (64 - blen (oddN N)) : Nat) : Int) (pe + (blen (oddN N) : Int) - 64) (up != neg) W
   rw [w3] at HF
   have hM2 : ∀ n', (digs (oddN N * 2 ^ (64 - blen (oddN N)))).length = n' → n' ≤ 2 := fun n' h => digs_two w2 h
   generalize oddN N * 2 ^ (64 - blen (oddN N)) = M at HSh HF hM2
   replace HW := HW M
   have hc1 : IntKind.i64.wrap (64 - (blen (oddN N) : Int)) = ((64 - blen (oddN N) : Nat) : Int) := by rw [wrap_z (by omega) (by omega)]; omega
   have hc2 : IntKind.i64.wrap (IntKind.i64.wrap (pe + (blen (oddN N) : Int)) - 64) = pe + (blen (oddN N) : Int) - 64 := by rw [wrap_z (n := pe + _) (by omega) (by omega), wrap_z (by omega) (by omega)]
   rw [← hc1] at HSh
   rw [← hc2] at HF
   obtain ⟨L, hL⟩ : ∃ L : Int, L = (blen (oddN N) : Int) := ⟨_, rfl⟩
   have hL1 : 0 ≤ L := by omega
   have hL2 : L ≤ 64 := by omega
   rw [← hL] at HSh HF HL
   clear hc1 hc2 hL w1 w2 w3 hodd hBl hlt hrd HZ hpE
   replace HMa := Lib.hid HMa
   replace HL := Lib.hid HL
   replace HSh := Lib.hid HSh
   replace HF := Lib.hid HF
   replace HW := Lib.hid HW
   replace hM2 := Lib.hid hM2
   obtain ⟨hpe1, hpe2⟩ := hpe
   go_enter Tryz.func110, Tryz.ntmps110
   go_wp2_with (first
    | (go_at_call 125; (with_reducible refine (HMa.out _ (hs.out.on HBd)).mono ?_); rintro e1 w1 ⟨A1, n1, c1, rfl, hc1, S1, hb1⟩; replace BR := BR.call hb1; replace HBd := bl_trans HBd hb1; have hn0 := (digs_none (oddN N) S1.1).2 (oddN_pos.2 hN); have hn1 := hO2.out n1 S1.1; have hne : ((n1 : Int) == 0) = false := (by simp; omega); replace S1 := Lib.hid (S1.on (bl_alloc (Below.refl w1.heap.size w1) (.cells #[.bool neg, .slice A1 n1 c1, .int .i64 pe] 128))); have BX : Blk (w1.alloc (.cells #[.bool neg, .slice A1 n1 c1, .int .i64 pe] 128)) w1.heap.size 128 #[.bool neg, .slice A1 n1 c1, .int .i64 pe] := Blk.new w1 _ _; replace BR := BR.alloc (.cells #[.bool neg, .slice A1 n1 c1, .int .i64 pe] 128); replace HBd := bl_alloc HBd (.cells #[.bool neg, .slice A1 n1 c1, .int .i64 pe] 128); clear hb1)
    | (go_at_call 128; (with_reducible refine (HL.out A1 n1 c1 _ S1.out hn1 hc1).mono ?_); rintro e1 w2 ⟨rfl, hb2⟩; replace BX := BX.call hb2; replace BR := BR.call hb2; replace HBd := bl_trans HBd hb2; have hlx := BX.lt; replace S1 := Lib.hid (S1.out.on hb2); obtain ⟨xc0, xc1, xc2⟩ : w2.cell? ⟨w1.heap.size, 0, none⟩ = some (.bool neg) ∧ w2.cell? ⟨w1.heap.size, 1, none⟩ = some (.slice A1 n1 c1) ∧ w2.cell? ⟨w1.heap.size, 2, none⟩ = some (.int .i64 pe) := ⟨BX.cell 0, BX.cell 1, BX.cell 2⟩; clear hb2 hne)
   )
   generalize w1.heap.size = g at BX xc0 xc1 xc2 ⊢
   replace BX := BX.drew
   replace BR := BR.drew
   replace HBd := bl_drew HBd
   replace S1 := Lib.hid (S1.out.on (bl_drew (Below.refl _ _)))
   refine start_ (n := 18) (S := fun w' => w'.cell? ⟨g, 0, none⟩ = some (.bool neg) ∧ w'.cell? ⟨g, 1, none⟩ = some (.slice A1 n1 c1) ∧ w'.cell? ⟨g, 2, none⟩ = some (.int .i64 pe)) (ds := [17]) (bq 18 0) (by kernel_rfl) rfl rfl ⟨BX.cell 0, BX.cell 1, BX.cell 2⟩ (fun hHeld => ?_)
   refine pure_ (i := 0) (N := some 32) (v := ?_) (a' := ?_) (bq 18 1) rfl rfl (by kernel_rfl) (fun _ _ _ h => h) (Or.inl ⟨by rfl, ?_⟩) ?_ ?_
   rotate_left
   ·intro w'
    go_simp
    with_reducible rfl
   rotate_left
   ·simp only [Act.put, pA, pB, pC]
    rfl
   refine pure_ (i := 1) (N := some 33) (v := ?_) (a' := ?_) (bq 18 3) rfl rfl (by kernel_rfl) (fun _ _ _ h => h) (Or.inl ⟨by rfl, ?_⟩) ?_ ?_
   rotate_left
   ·intro w'
    go_simp
    with_reducible rfl
   rotate_left
   ·simp only [Act.put, pA, pB, pC]
    rfl
   refine take_ (i := 2) (N := some 34) (v := ?_) (a' := ?_) (bq 18 7) rfl rfl (by kernel_rfl) (fun _ _ _ h => h) (Or.inl ⟨by rfl, ?_⟩) hHeld ?_ ?_
   rotate_left
   ·rintro w' ⟨s0_, s1_, s2_⟩
    go_simp
    with_reducible rfl
   rotate_left
   ·simp only [Act.put, pA, pB, pC]
    rfl
   refine pure_ (i := 3) (N := some 35) (v := ?_) (a' := ?_) (bq 18 15) rfl rfl (by kernel_rfl) (fun _ _ _ h => h) (Or.inl ⟨by rfl, ?_⟩) ?_ ?_
   rotate_left
   ·intro w'
    go_simp
    with_reducible rfl
   rotate_left
   ·simp only [Act.put, pA, pB, pC]
    rfl
   refine pure_ (i := 4) (N := some 36) (v := ?_) (a' := ?_) (bq 18 31) rfl rfl (by kernel_rfl) (fun _ _ _ h => h) (Or.inl ⟨by rfl, ?_⟩) ?_ ?_
   rotate_left
   ·intro w'
    go_simp
    with_reducible rfl
   rotate_left
   ·simp only [Act.put, pA, pB, pC]
    rfl
   refine take_ (i := 5) (N := some 37) (v := ?_) (a' := ?_) (bq 18 63) rfl rfl (by kernel_rfl) (fun _ _ _ h => h) (Or.inl ⟨by rfl, ?_⟩) hHeld ?_ ?_
   rotate_left
   ·rintro w' ⟨s0_, s1_, s2_⟩
    go_simp
    with_reducible rfl
   rotate_left
   ·simp only [Act.put, pA, pB, pC]
    rfl
   refine pure_ (i := 6) (N := some 38) (v := ?_) (a' := ?_) (bq 18 127) rfl rfl (by kernel_rfl) (fun _ _ _ h => h) (Or.inl ⟨by rfl, ?_⟩) ?_ ?_
   rotate_left
   ·intro w'
    go_simp
    with_reducible rfl
   rotate_left
   ·simp only [Act.put, pA, pB, pC]
    rfl
   refine pure_ (i := 7) (N := some 39) (v := ?_) (a' := ?_) (bq 18 255) rfl rfl (by kernel_rfl) (fun _ _ _ h => h) (Or.inl ⟨by rfl, ?_⟩) ?_ ?_
   rotate_left
   ·intro w'
    go_simp
    with_reducible rfl
   rotate_left
   ·simp only [Act.put, pA, pB, pC]
    rfl
   refine pure_ (i := 10) (N := some 42) (v := ?_) (a' := ?_) (bq 18 1279) rfl rfl (by kernel_rfl) (fun _ _ _ h => h) (Or.inl ⟨by rfl, ?_⟩) ?_ ?_
   rotate_left
   ·intro w'
    go_simp
    with_reducible rfl
   rotate_left
   ·simp only [Act.put, pA, pB, pC]
    rfl
   refine take_ (i := 11) (N := some 43) (v := ?_) (a' := ?_) (bq 18 3327) rfl rfl (by kernel_rfl) (fun _ _ _ h => h) (Or.inl ⟨by rfl, ?_⟩) hHeld ?_ ?_
   rotate_left
   ·rintro w' ⟨s0_, s1_, s2_⟩
    go_simp
    with_reducible rfl
   rotate_left
   ·simp only [Act.put, pA, pB, pC]
    rfl
   refine pure_ (i := 12) (N := some 44) (v := ?_) (a' := ?_) (bq 18 7423) rfl rfl (by kernel_rfl) (fun _ _ _ h => h) (Or.inl ⟨by rfl, ?_⟩) ?_ ?_
   rotate_left
   ·intro w'
    go_simp
    with_reducible rfl
   rotate_left
   ·simp only [Act.put, pA, pB, pC]
    rfl
   refine pure_ (i := 13) (N := some 45) (v := ?_) (a' := ?_) (bq 18 15615) rfl rfl (by kernel_rfl) (fun _ _ _ h => h) (Or.inl ⟨by rfl, ?_⟩) ?_ ?_
   rotate_left
   ·intro w'
    go_simp
    with_reducible rfl
   rotate_left
   ·simp only [Act.put, pA, pB, pC]
    rfl
   refine pure_ (i := 14) (N := some 46) (v := ?_) (a' := ?_) (bq 18 31999) rfl rfl (by kernel_rfl) (fun _ _ _ h => h) (Or.inl ⟨by rfl, ?_⟩) ?_ ?_
   rotate_left
   ·intro w'
    go_simp
    with_reducible rfl
   rotate_left
   ·simp only [Act.put, pA, pB, pC]
    rfl
   refine pure_ (i := 15) (N := some 47) (v := ?_) (a' := ?_) (bq 18 64767) rfl rfl (by kernel_rfl) (fun _ _ _ h => h) (Or.inl ⟨by rfl, ?_⟩) ?_ ?_
   rotate_left
   ·intro w'
    go_simp
    with_reducible rfl
   rotate_left
   ·simp only [Act.put, pA, pB, pC]
    rfl
   refine one_ (i := 8) (N := some 40) (bq 18 65023) rfl rfl (by kernel_rfl) (by decide) (fun K hK => ?_)
   refine goes_ Tryz.func131 (by kernel_rfl) rfl #[.slice A1 n1 c1, .int .i64 (IntKind.i64.wrap (64 - L))] (by first | rfl | go_simp) rfl rfl (by simp only [List.map_toArray, List.map_cons, List.map_nil] <;> rfl) ?_
   with_reducible refine (HSh.out A1 n1 c1 _ S1.out (by omega) hc1).mono ?_
   rintro e1 w3 ⟨A3, n3, c3, rfl, hc3, S3, hb⟩
   refine ⟨_, rfl, ?_⟩
   replace S3 := Lib.hid S3
   replace BX := BX.call hb
   replace BR := BR.call hb
   replace HBd := bl_trans HBd hb
   have hn3 := hM2.out n3 S3.out.1
   refine hK.out _ _ ⟨BX.cell 0, BX.cell 1, BX.cell 2⟩ (fun hHeld => ?_)
   clear hK K hb
   refine norm_ (a' := ?_) ?_ ?_
   rotate_left
   ·show Act.put _ (some 40) _ = _
    simp only [Act.put, pA, pB, pC]
    rfl
   refine one_ (i := 9) (N := some 41) (bq 18 65535) rfl rfl (by kernel_rfl) (by decide) (fun K hK => ?_)
   refine goes_ Tryz.func130 (by kernel_rfl) rfl #[.slice A3 n3 c3] (by first | rfl | go_simp) rfl rfl (by simp only [List.map_toArray, List.map_cons, List.map_nil] <;> rfl) ?_
   with_reducible refine (HW.out A3 n3 c3 _ S3.out hn3 hc3).mono ?_
   rintro e1 w4 ⟨rfl, hw⟩
   refine ⟨_, rfl, ?_⟩
   obtain rfl := hw.symm
   have hb := Below.refl w3.heap.size w3
   refine hK.out _ _ ⟨BX.cell 0, BX.cell 1, BX.cell 2⟩ (fun hHeld => ?_)
   clear hK K hb
   refine norm_ (a' := ?_) ?_ ?_
   rotate_left
   ·show Act.put _ (some 41) _ = _
    simp only [Act.put, pA, pB, pC]
    rfl
   refine one_ (i := 16) (N := some 48) (bq 18 131071) rfl rfl (by kernel_rfl) (by decide) (fun K hK => ?_)
   refine goes_ Tryz.func129 (by kernel_rfl) rfl #[.bool neg, .int .u64 M, .int .i64 (IntKind.i64.wrap (IntKind.i64.wrap (pe + L) - 64)), .bool (up != neg)] (by first | rfl | go_simp) rfl rfl (by simp only [List.map_toArray, List.map_cons, List.map_nil] <;> rfl) ?_
   with_reducible refine (HF.out _).mono ?_
   rintro e1 w5 ⟨rfl, hb⟩
   refine ⟨_, rfl, ?_⟩
   replace BR := BR.call hb
   replace BX := BX.call hb
   replace HBd := bl_trans HBd hb
   obtain ⟨z0, z1, z2, z3⟩ : w5.cell? ⟨w.heap.size + 1, 0, none⟩ = some (.int .i64 0) ∧ w5.cell? ⟨w.heap.size + 1, 1, none⟩ = some (.bool false) ∧ w5.cell? ⟨w.heap.size + 1, 2, none⟩ = some (.int .u64 0) ∧ w5.cell? ⟨w.heap.size + 1, 3, none⟩ = some (.int .i64 0) := ⟨BR.cell 0, BR.cell 1, BR.cell 2, BR.cell 3⟩
   obtain ⟨f0, f1, f2, f3⟩ : w5.frozen? ⟨w.heap.size + 1, 0, none⟩ = false ∧ w5.frozen? ⟨w.heap.size + 1, 1, none⟩ = false ∧ w5.frozen? ⟨w.heap.size + 1, 2, none⟩ = false ∧ w5.frozen? ⟨w.heap.size + 1, 3, none⟩ = false := ⟨BR.frozen 0, BR.frozen 1, BR.frozen 2, BR.frozen 3⟩
   refine hK.out _ _ ⟨BX.cell 0, BX.cell 1, BX.cell 2⟩ (fun hHeld => ?_)
   clear hK K hb
   refine norm_ (a' := ?_) ?_ ?_
   rotate_left
   ·show Act.put _ (some 48) _ = _
    simp only [Act.put, pA, pB, pC]
    rfl
   refine last_ (i := 17) (N := none) (bq 18 262143) rfl rfl (by kernel_rfl) (by decide) (fun K hK => ?_)
   refine skip_ (w1 := ?_) (by rfl) rfl ?_ ?_
   rotate_left
   ·go_simp
    rfl
   refine hK.out _ _ ?_
   clear hK K
   refine done_ (by kernel_rfl) ?_
   go_wp2_with fail
   have B2 : Blk _ (w.heap.size + 1) 37 #[.int .i64 r0, .bool r1, .int .u64 r2, .int .i64 r3] := (((BR.set_ 0 (.int .i64 r0)).set_ 1 (.bool r1)).set_ 2 (.int .u64 r2)).set_ 3 (.int .i64 r3)
   have HB2 := ((((HBd.setCell (p := ⟨w.heap.size + 1, 0, none⟩) (by show w.heap.size ≤ w.heap.size + 1; omega) (.int .i64 r0)).setCell (p := ⟨w.heap.size + 1, 1, none⟩) (by show w.heap.size ≤ w.heap.size + 1; omega) (.bool r1)).setCell (p := ⟨w.heap.size + 1, 2, none⟩) (by show w.heap.size ≤ w.heap.size + 1; omega) (.int .u64 r2)).setCell (p := ⟨w.heap.size + 1, 3, none⟩) (by show w.heap.size ≤ w.heap.size + 1; omega) (.int .i64 r3))
   exact bodyPost_ret (results_cell_row rfl _ _ (w.heap.size + 1) 37 _ (0, 0) _ rfl B2 Tryz.underlying37 rfl (by kernel_rfl)) rfl ⟨rfl, HB2⟩
  ·skip
   have HSr := (fun A1 n1 c1 W h hn hc => r1shr_calls A1 n1 c1 (blen (oddN N) - 64) (digs (oddN N)) W h hn hc (by omega))
   rw [valL_digs] at HSr
   have hc1 : (((blen (oddN N) - 64 : Nat) : Int)) = (blen (oddN N) : Int) - 64 := by omega
   rw [hc1] at HSr
   generalize hT : oddN N / 2 ^ (blen (oddN N) - 64) = T at HSr w2 w4 w1
   have hT2 : ∀ n', (digs T).length = n' → n' ≤ 2 := fun n' h => digs_two (by omega) h
   obtain ⟨L, hL⟩ : ∃ L : Int, L = (blen (oddN N) : Int) := ⟨_, rfl⟩
   have hL1 : ¬ L ≤ 64 := by omega
   have hL2 : L ≤ 32000 := by omega
   have hL3 : 64 < L := by omega
   have HF := fun W => r5fin_calls neg (T : Int) (pe + (blen (oddN N) : Int) - 64) (up != neg) W
   rw [w3, w4] at HF
   rw [← hL] at HSr HF HL
   replace HW := HW T
   clear hc1 hL hT w1 w2 w4 hodd hBl hlt hrd HZ hpE
   replace HMa := Lib.hid HMa
   replace HL := Lib.hid HL
   replace HSr := Lib.hid HSr
   replace HF := Lib.hid HF
   replace HW := Lib.hid HW
   replace hT2 := Lib.hid hT2
   obtain ⟨hpe1, hpe2⟩ := hpe
   generalize hM : (T : Int) = M at HF HW
   obtain rfl : neg = up := by cases neg <;> cases up <;> simp_all
   go_enter Tryz.func110, Tryz.ntmps110
   go_wp2_with (first
    | (go_at_call 125; (with_reducible refine (HMa.out _ (hs.out.on HBd)).mono ?_); rintro e1 w1 ⟨A1, n1, c1, rfl, hc1, S1, hb1⟩; replace BR := BR.call hb1; replace HBd := bl_trans HBd hb1; have hn0 := (digs_none (oddN N) S1.1).2 (oddN_pos.2 hN); have hn1 := hO2.out n1 S1.1; have hne : ((n1 : Int) == 0) = false := (by simp; omega); replace S1 := Lib.hid (S1.on (bl_alloc (Below.refl w1.heap.size w1) (.cells #[.bool neg, .slice A1 n1 c1, .int .i64 pe] 128))); have BX : Blk (w1.alloc (.cells #[.bool neg, .slice A1 n1 c1, .int .i64 pe] 128)) w1.heap.size 128 #[.bool neg, .slice A1 n1 c1, .int .i64 pe] := Blk.new w1 _ _; replace BR := BR.alloc (.cells #[.bool neg, .slice A1 n1 c1, .int .i64 pe] 128); replace HBd := bl_alloc HBd (.cells #[.bool neg, .slice A1 n1 c1, .int .i64 pe] 128); clear hb1)
    | (go_at_call 128; (with_reducible refine (HL.out A1 n1 c1 _ S1.out hn1 hc1).mono ?_); rintro e1 w2 ⟨rfl, hb2⟩; replace BX := BX.call hb2; replace BR := BR.call hb2; replace HBd := bl_trans HBd hb2; have hlx := BX.lt; replace S1 := Lib.hid (S1.out.on hb2); obtain ⟨xc0, xc1, xc2⟩ : w2.cell? ⟨w1.heap.size, 0, none⟩ = some (.bool neg) ∧ w2.cell? ⟨w1.heap.size, 1, none⟩ = some (.slice A1 n1 c1) ∧ w2.cell? ⟨w1.heap.size, 2, none⟩ = some (.int .i64 pe) := ⟨BX.cell 0, BX.cell 1, BX.cell 2⟩; clear hb2 hne)
    | (go_at_call 132; (with_reducible refine (HSr.out A1 n1 c1 _ S1.out (by omega) hc1).mono ?_); rintro e1 w3 ⟨A3, n3, c3, rfl, hc3, S3, hb3⟩; replace BX := BX.call hb3; replace BR := BR.call hb3; replace HBd := bl_trans HBd hb3; replace S3 := Lib.hid S3; have hn3 := hT2.out n3 S3.out.1; clear hlx; have hlx := BX.lt; obtain ⟨vc0, vc1, vc2⟩ : w3.cell? ⟨w1.heap.size, 0, none⟩ = some (.bool neg) ∧ w3.cell? ⟨w1.heap.size, 1, none⟩ = some (.slice A1 n1 c1) ∧ w3.cell? ⟨w1.heap.size, 2, none⟩ = some (.int .i64 pe) := ⟨BX.cell 0, BX.cell 1, BX.cell 2⟩; clear xc0 xc1 xc2 hb3)
    )
   generalize w1.heap.size = g at BX vc0 vc1 vc2 hlx ⊢
   clear hlx
   generalize pe + L - 64 = E at HF ⊢
   replace BX := BX.drew
   replace BR := BR.drew
   replace HBd := bl_drew HBd
   replace S3 := Lib.hid (S3.out.on (bl_drew (Below.refl _ _)))
   refine start_ (n := 9) (S := fun w' => w'.cell? ⟨g, 0, none⟩ = some (.bool neg) ∧ w'.cell? ⟨g, 1, none⟩ = some (.slice A1 n1 c1)) (ds := [8]) (bq 9 0) (by kernel_rfl) rfl rfl ⟨BX.cell 0, BX.cell 1⟩ (fun hHeld => ?_)
   refine pure_ (i := 0) (N := some 71) (v := ?_) (a' := ?_) (bq 9 1) rfl rfl (by kernel_rfl) (fun _ _ _ h => h) (Or.inl ⟨by rfl, ?_⟩) ?_ ?_
   rotate_left
   ·intro w'
    go_simp
    with_reducible rfl
   rotate_left
   ·simp only [Act.put, pA, pB, pC]
    rfl
   refine pure_ (i := 1) (N := some 72) (v := ?_) (a' := ?_) (bq 9 3) rfl rfl (by kernel_rfl) (fun _ _ _ h => h) (Or.inl ⟨by rfl, ?_⟩) ?_ ?_
   rotate_left
   ·intro w'
    go_simp
    with_reducible rfl
   rotate_left
   ·simp only [Act.put, pA, pB, pC]
    rfl
   refine take_ (i := 2) (N := some 73) (v := ?_) (a' := ?_) (bq 9 7) rfl rfl (by kernel_rfl) (fun _ _ _ h => h) (Or.inl ⟨by rfl, ?_⟩) hHeld ?_ ?_
   rotate_left
   ·rintro w' ⟨s0_, s1_⟩
    go_simp
    with_reducible rfl
   rotate_left
   ·simp only [Act.put, pA, pB, pC]
    rfl
   refine pure_ (i := 3) (N := some 74) (v := ?_) (a' := ?_) (bq 9 15) rfl rfl (by kernel_rfl) (fun _ _ _ h => h) (Or.inl ⟨by rfl, ?_⟩) ?_ ?_
   rotate_left
   ·intro w'
    go_simp
    with_reducible rfl
   rotate_left
   ·simp only [Act.put, pA, pB, pC]
    rfl
   refine pure_ (i := 5) (N := some 76) (v := ?_) (a' := ?_) (bq 9 47) rfl rfl (by kernel_rfl) (fun _ _ _ h => h) (Or.inl ⟨by rfl, ?_⟩) ?_ ?_
   rotate_left
   ·intro w'
    go_simp
    with_reducible rfl
   rotate_left
   ·simp only [Act.put, pA, pB, pC]
    rfl
   refine pure_ (i := 6) (N := some 77) (v := ?_) (a' := ?_) (bq 9 111) rfl rfl (by kernel_rfl) (fun _ _ _ h => h) (Or.inl ⟨by rfl, ?_⟩) ?_ ?_
   rotate_left
   ·intro w'
    go_simp
    with_reducible rfl
   rotate_left
   ·simp only [Act.put, pA, pB, pC]
    rfl
   refine one_ (i := 4) (N := some 75) (bq 9 127) rfl rfl (by kernel_rfl) (by decide) (fun K hK => ?_)
   refine goes_ Tryz.func130 (by kernel_rfl) rfl #[.slice A3 n3 c3] (by first | rfl | go_simp) rfl rfl (by simp only [List.map_toArray, List.map_cons, List.map_nil] <;> rfl) ?_
   with_reducible refine (HW.out A3 n3 c3 _ S3.out hn3 hc3).mono ?_
   rintro e1 w4 ⟨rfl, hw⟩
   refine ⟨_, rfl, ?_⟩
   obtain rfl := hw.symm
   have hb := Below.refl w3.drew.heap.size w3.drew
   refine hK.out _ _ ⟨BX.cell 0, BX.cell 1⟩ (fun hHeld => ?_)
   clear hK K hb
   refine norm_ (a' := ?_) ?_ ?_
   rotate_left
   ·show Act.put _ (some 75) _ = _
    simp only [Act.put, pA, pB, pC]
    rfl
   refine one_ (i := 7) (N := some 78) (bq 9 255) rfl rfl (by kernel_rfl) (by decide) (fun K hK => ?_)
   refine goes_ Tryz.func129 (by kernel_rfl) rfl #[.bool neg, .int .u64 M, .int .i64 E, .bool false] (by first | rfl | go_simp) rfl rfl (by simp only [List.map_toArray, List.map_cons, List.map_nil] <;> rfl) ?_
   with_reducible refine (HF.out _).mono ?_
   rintro e1 w5 ⟨rfl, hb⟩
   refine ⟨_, rfl, ?_⟩
   replace BR := BR.call hb
   replace BX := BX.call hb
   replace HBd := bl_trans HBd hb
   obtain ⟨z0, z1, z2, z3⟩ : w5.cell? ⟨w.heap.size + 1, 0, none⟩ = some (.int .i64 0) ∧ w5.cell? ⟨w.heap.size + 1, 1, none⟩ = some (.bool false) ∧ w5.cell? ⟨w.heap.size + 1, 2, none⟩ = some (.int .u64 0) ∧ w5.cell? ⟨w.heap.size + 1, 3, none⟩ = some (.int .i64 0) := ⟨BR.cell 0, BR.cell 1, BR.cell 2, BR.cell 3⟩
   obtain ⟨f0, f1, f2, f3⟩ : w5.frozen? ⟨w.heap.size + 1, 0, none⟩ = false ∧ w5.frozen? ⟨w.heap.size + 1, 1, none⟩ = false ∧ w5.frozen? ⟨w.heap.size + 1, 2, none⟩ = false ∧ w5.frozen? ⟨w.heap.size + 1, 3, none⟩ = false := ⟨BR.frozen 0, BR.frozen 1, BR.frozen 2, BR.frozen 3⟩
   refine hK.out _ _ ⟨BX.cell 0, BX.cell 1⟩ (fun hHeld => ?_)
   clear hK K hb
   refine norm_ (a' := ?_) ?_ ?_
   rotate_left
   ·show Act.put _ (some 78) _ = _
    simp only [Act.put, pA, pB, pC]
    rfl
   refine last_ (i := 8) (N := none) (bq 9 511) rfl rfl (by kernel_rfl) (by decide) (fun K hK => ?_)
   refine skip_ (w1 := ?_) (by rfl) rfl ?_ ?_
   rotate_left
   ·go_simp
    rfl
   refine hK.out _ _ ?_
   clear hK K
   refine done_ (by kernel_rfl) ?_
   go_wp2_with fail
   have B2 : Blk _ (w.heap.size + 1) 37 #[.int .i64 r0, .bool r1, .int .u64 r2, .int .i64 r3] := (((BR.set_ 0 (.int .i64 r0)).set_ 1 (.bool r1)).set_ 2 (.int .u64 r2)).set_ 3 (.int .i64 r3)
   have HB2 := ((((HBd.setCell (p := ⟨w.heap.size + 1, 0, none⟩) (by show w.heap.size ≤ w.heap.size + 1; omega) (.int .i64 r0)).setCell (p := ⟨w.heap.size + 1, 1, none⟩) (by show w.heap.size ≤ w.heap.size + 1; omega) (.bool r1)).setCell (p := ⟨w.heap.size + 1, 2, none⟩) (by show w.heap.size ≤ w.heap.size + 1; omega) (.int .u64 r2)).setCell (p := ⟨w.heap.size + 1, 3, none⟩) (by show w.heap.size ≤ w.heap.size + 1; omega) (.int .i64 r3))
   exact bodyPost_ret (results_cell_row rfl _ _ (w.heap.size + 1) 37 _ (0, 0) _ rfl B2 Tryz.underlying37 rfl (by kernel_rfl)) rfl ⟨rfl, HB2⟩
  ·skip
   have HSr := (fun A1 n1 c1 W h hn hc => r1shr_calls A1 n1 c1 (blen (oddN N) - 64) (digs (oddN N)) W h hn hc (by omega))
   rw [valL_digs] at HSr
   have hc1 : (((blen (oddN N) - 64 : Nat) : Int)) = (blen (oddN N) : Int) - 64 := by omega
   rw [hc1] at HSr
   generalize hT : oddN N / 2 ^ (blen (oddN N) - 64) = T at HSr w2
   have hT2 : ∀ n', (digs T).length = n' → n' ≤ 2 := fun n' h => digs_two (by omega) h
   obtain ⟨L, hL⟩ : ∃ L : Int, L = (blen (oddN N) : Int) := ⟨_, rfl⟩
   have hL1 : ¬ L ≤ 64 := by omega
   have hL2 : L ≤ 32000 := by omega
   have hL3 : 64 < L := by omega
   subst w2
   have HF := fun W => r5fin_calls neg 9223372036854775808 (pe + (blen (oddN N) : Int) - 64 + 1) (up != neg) W
   rw [w3, w4] at HF
   have HAd := (fun A n c B m d W g h hn hm => r1add_calls A n c (digs 18446744073709551615) B m d [1] W g h hn hm)
   rw [valL_digs, show valL [1] = 1 from rfl] at HAd
   have hA2 : ∀ n', (digs (18446744073709551615 + 1)).length = n' → n' ≤ 3 := fun n' h => len_one (a := 65) (k := 3) (by decide +kernel) (by decide) h
   have HL2 : ∀ A1 n1 c1 (W : World), SlU W W.heap.size A1 n1 (digs (18446744073709551615 + 1)) → n1 ≤ 3 → n1 ≤ c1 → Calls Tryz.prog 128 #[.slice A1 n1 c1] W fun e w' => e = .returned (.int .i64 65) ∧ Below W.heap.size W w' := fun A1 n1 c1 W h hn hc => by
    have := r1len_calls A1 n1 c1 _ W h (by omega) hc
    rwa [valL_digs, show ((blen (18446744073709551615 + 1) : Nat) : Int) = 65 from by decide +kernel] at this
   have HS2 := (fun A1 n1 c1 W h hn hc => r1shr_calls A1 n1 c1 1 (digs (18446744073709551615 + 1)) W h hn hc (by decide))
   rw [valL_digs, show (18446744073709551615 + 1) / 2 ^ 1 = 9223372036854775808 from by decide +kernel, show (((1 : Nat) : Int)) = 1 from rfl] at HS2
   have hD2 : ∀ n', (digs 9223372036854775808).length = n' → n' ≤ 2 := fun n' h => digs_two (by decide) h
   generalize 18446744073709551615 + 1 = T1 at HAd hA2 HL2 HS2
   rw [← hL] at HSr HF HL
   replace HW := HW 9223372036854775808
   clear hc1 hL hT w1 w4 hodd hBl hlt hrd HZ hpE
   replace HMa := Lib.hid HMa
   replace HL := Lib.hid HL
   replace HSr := Lib.hid HSr
   replace HF := Lib.hid HF
   replace HW := Lib.hid HW
   obtain ⟨hpe1, hpe2⟩ := hpe
   generalize hT18 : (18446744073709551615 : Nat) = T at HSr HAd hT2
   clear hT18
   rw [show ((9223372036854775808 : Nat) : Int) = 9223372036854775808 from rfl] at HW
   generalize hM : (9223372036854775808 : Int) = M at HF HW
   clear hM
   obtain rfl : up = !neg := by cases neg <;> cases up <;> simp_all
   replace hT2 := Lib.hid hT2
   replace HAd := Lib.hid HAd
   replace hA2 := Lib.hid hA2
   replace HL2 := Lib.hid HL2
   replace HS2 := Lib.hid HS2
   replace hD2 := Lib.hid hD2
   go_enter Tryz.func110, Tryz.ntmps110
   go_wp2_with (first
    | (go_at_call 125; (with_reducible refine (HMa.out _ (hs.out.on HBd)).mono ?_); rintro e1 w1 ⟨A1, n1, c1, rfl, hc1, S1, hb1⟩; replace BR := BR.call hb1; replace HBd := bl_trans HBd hb1; have hn0 := (digs_none (oddN N) S1.1).2 (oddN_pos.2 hN); have hn1 := hO2.out n1 S1.1; have hne : ((n1 : Int) == 0) = false := (by simp; omega); replace S1 := Lib.hid (S1.on (bl_alloc (Below.refl w1.heap.size w1) (.cells #[.bool neg, .slice A1 n1 c1, .int .i64 pe] 128))); have BX : Blk (w1.alloc (.cells #[.bool neg, .slice A1 n1 c1, .int .i64 pe] 128)) w1.heap.size 128 #[.bool neg, .slice A1 n1 c1, .int .i64 pe] := Blk.new w1 _ _; replace BR := BR.alloc (.cells #[.bool neg, .slice A1 n1 c1, .int .i64 pe] 128); replace HBd := bl_alloc HBd (.cells #[.bool neg, .slice A1 n1 c1, .int .i64 pe] 128); clear hb1)
    | (go_at_call 128; (with_reducible refine (HL.out A1 n1 c1 _ S1.out hn1 hc1).mono ?_); rintro e1 w2 ⟨rfl, hb2⟩; replace BX := BX.call hb2; replace BR := BR.call hb2; replace HBd := bl_trans HBd hb2; have hlx := BX.lt; replace S1 := Lib.hid (S1.out.on hb2); obtain ⟨xc0, xc1, xc2⟩ : w2.cell? ⟨w1.heap.size, 0, none⟩ = some (.bool neg) ∧ w2.cell? ⟨w1.heap.size, 1, none⟩ = some (.slice A1 n1 c1) ∧ w2.cell? ⟨w1.heap.size, 2, none⟩ = some (.int .i64 pe) := ⟨BX.cell 0, BX.cell 1, BX.cell 2⟩; clear hb2 hne)
    | (go_at_call 132; (with_reducible refine (HSr.out A1 n1 c1 _ S1.out (by omega) hc1).mono ?_); rintro e1 w3 ⟨A3, n3, c3, rfl, hc3, S3, hb3⟩; replace BX := BX.call hb3; replace BR := BR.call hb3; replace HBd := bl_trans HBd hb3; replace S3 := Lib.hid S3; have hn3 := hT2.out n3 S3.out.1; clear hlx; have hlx := BX.lt; obtain ⟨vc0, vc1, vc2⟩ : w3.cell? ⟨w1.heap.size, 0, none⟩ = some (.bool neg) ∧ w3.cell? ⟨w1.heap.size, 1, none⟩ = some (.slice A1 n1 c1) ∧ w3.cell? ⟨w1.heap.size, 2, none⟩ = some (.int .i64 pe) := ⟨BX.cell 0, BX.cell 1, BX.cell 2⟩; clear xc0 xc1 xc2 hb3)
    | (go_at_call 133; (with_reducible refine (HAd.out A3 n3 c3 (some ⟨w3.heap.size, 0, none⟩) 1 1 (w3.alloc (.cells #[.int .u32 1] 117)) (S3.out.on (bl_alloc (Below.refl _ _) _)) (SlU.lit1 (Blk.new w3 _ _) (by decide) (by decide) (by simp)) (by omega) (by omega)).mono ?_); rintro e1 w4 ⟨A4, n4, c4, rfl, hc4, S4, hbq⟩; replace BX := (BX.alloc (.cells #[.int .u32 1] 117)).call hbq; replace BR := (BR.alloc (.cells #[.int .u32 1] 117)).call hbq; replace HBd := bl_trans (bl_alloc HBd (.cells #[.int .u32 1] 117)) hbq; replace S4 := Lib.hid S4; have hn4 := hA2.out n4 S4.out.1; clear hlx; have hlx := BX.lt; obtain ⟨vc0, vc1, vc2⟩ : w4.cell? ⟨w1.heap.size, 0, none⟩ = some (.bool neg) ∧ w4.cell? ⟨w1.heap.size, 1, none⟩ = some (.slice A1 n1 c1) ∧ w4.cell? ⟨w1.heap.size, 2, none⟩ = some (.int .i64 pe) := ⟨BX.cell 0, BX.cell 1, BX.cell 2⟩; clear hbq)
    | (go_at_call 128; (with_reducible refine (HL2.out A4 n4 c4 _ S4.out hn4 hc4).mono ?_); rintro e1 w5 ⟨rfl, hbq⟩; replace BX := BX.call hbq; replace BR := BR.call hbq; replace HBd := bl_trans HBd hbq; replace S4 := Lib.hid (S4.out.on hbq); clear hlx; have hlx := BX.lt; clear hbq)
    | (go_at_call 132; (with_reducible refine (HS2.out A4 n4 c4 _ S4.out (by omega) hc4).mono ?_); rintro e1 w6 ⟨A6, n6, c6, rfl, hc6, S6, hbq⟩; replace BX := BX.call hbq; replace BR := BR.call hbq; replace HBd := bl_trans HBd hbq; replace S6 := Lib.hid S6; have hn6 := hD2.out n6 S6.out.1; clear hlx; have hlx := BX.lt; obtain ⟨vc0, vc1, vc2⟩ : w6.cell? ⟨w1.heap.size, 0, none⟩ = some (.bool neg) ∧ w6.cell? ⟨w1.heap.size, 1, none⟩ = some (.slice A1 n1 c1) ∧ w6.cell? ⟨w1.heap.size, 2, none⟩ = some (.int .i64 pe) := ⟨BX.cell 0, BX.cell 1, BX.cell 2⟩; clear hbq)
    )
   generalize w1.heap.size = g at BX vc0 vc1 vc2 hlx ⊢
   clear hlx
   generalize pe + L - 64 + 1 = E at HF ⊢
   replace BX := BX.drew
   replace BR := BR.drew
   replace HBd := bl_drew HBd
   replace S6 := Lib.hid (S6.out.on (bl_drew (Below.refl _ _)))
   refine start_ (n := 9) (S := fun w' => w'.cell? ⟨g, 0, none⟩ = some (.bool neg) ∧ w'.cell? ⟨g, 1, none⟩ = some (.slice A1 n1 c1)) (ds := [8]) (bq 9 0) (by kernel_rfl) rfl rfl ⟨BX.cell 0, BX.cell 1⟩ (fun hHeld => ?_)
   refine pure_ (i := 0) (N := some 71) (v := ?_) (a' := ?_) (bq 9 1) rfl rfl (by kernel_rfl) (fun _ _ _ h => h) (Or.inl ⟨by rfl, ?_⟩) ?_ ?_
   rotate_left
   ·intro w'
    go_simp
    with_reducible rfl
   rotate_left
   ·simp only [Act.put, pA, pB, pC]
    rfl
   refine pure_ (i := 1) (N := some 72) (v := ?_) (a' := ?_) (bq 9 3) rfl rfl (by kernel_rfl) (fun _ _ _ h => h) (Or.inl ⟨by rfl, ?_⟩) ?_ ?_
   rotate_left
   ·intro w'
    go_simp
    with_reducible rfl
   rotate_left
   ·simp only [Act.put, pA, pB, pC]
    rfl
   refine take_ (i := 2) (N := some 73) (v := ?_) (a' := ?_) (bq 9 7) rfl rfl (by kernel_rfl) (fun _ _ _ h => h) (Or.inl ⟨by rfl, ?_⟩) hHeld ?_ ?_
   rotate_left
   ·rintro w' ⟨s0_, s1_⟩
    go_simp
    with_reducible rfl
   rotate_left
   ·simp only [Act.put, pA, pB, pC]
    rfl
   refine pure_ (i := 3) (N := some 74) (v := ?_) (a' := ?_) (bq 9 15) rfl rfl (by kernel_rfl) (fun _ _ _ h => h) (Or.inl ⟨by rfl, ?_⟩) ?_ ?_
   rotate_left
   ·intro w'
    go_simp
    with_reducible rfl
   rotate_left
   ·simp only [Act.put, pA, pB, pC]
    rfl
   refine pure_ (i := 5) (N := some 76) (v := ?_) (a' := ?_) (bq 9 47) rfl rfl (by kernel_rfl) (fun _ _ _ h => h) (Or.inl ⟨by rfl, ?_⟩) ?_ ?_
   rotate_left
   ·intro w'
    go_simp
    with_reducible rfl
   rotate_left
   ·simp only [Act.put, pA, pB, pC]
    rfl
   refine pure_ (i := 6) (N := some 77) (v := ?_) (a' := ?_) (bq 9 111) rfl rfl (by kernel_rfl) (fun _ _ _ h => h) (Or.inl ⟨by rfl, ?_⟩) ?_ ?_
   rotate_left
   ·intro w'
    go_simp
    with_reducible rfl
   rotate_left
   ·simp only [Act.put, pA, pB, pC]
    rfl
   refine one_ (i := 4) (N := some 75) (bq 9 127) rfl rfl (by kernel_rfl) (by decide) (fun K hK => ?_)
   refine goes_ Tryz.func130 (by kernel_rfl) rfl #[.slice A6 n6 c6] (by first | rfl | go_simp) rfl rfl (by simp only [List.map_toArray, List.map_cons, List.map_nil] <;> rfl) ?_
   with_reducible refine (HW.out A6 n6 c6 _ S6.out hn6 hc6).mono ?_
   rintro e1 w8 ⟨rfl, hw⟩
   refine ⟨_, rfl, ?_⟩
   obtain rfl := hw.symm
   have hb := Below.refl w6.drew.heap.size w6.drew
   refine hK.out _ _ ⟨BX.cell 0, BX.cell 1⟩ (fun hHeld => ?_)
   clear hK K hb
   refine norm_ (a' := ?_) ?_ ?_
   rotate_left
   ·show Act.put _ (some 75) _ = _
    simp only [Act.put, pA, pB, pC]
    rfl
   refine one_ (i := 7) (N := some 78) (bq 9 255) rfl rfl (by kernel_rfl) (by decide) (fun K hK => ?_)
   refine goes_ Tryz.func129 (by kernel_rfl) rfl #[.bool neg, .int .u64 M, .int .i64 E, .bool true] (by first | rfl | go_simp) rfl rfl (by simp only [List.map_toArray, List.map_cons, List.map_nil] <;> rfl) ?_
   with_reducible refine (HF.out _).mono ?_
   rintro e1 w5 ⟨rfl, hb⟩
   refine ⟨_, rfl, ?_⟩
   replace BR := BR.call hb
   replace BX := BX.call hb
   replace HBd := bl_trans HBd hb
   obtain ⟨z0, z1, z2, z3⟩ : w5.cell? ⟨w.heap.size + 1, 0, none⟩ = some (.int .i64 0) ∧ w5.cell? ⟨w.heap.size + 1, 1, none⟩ = some (.bool false) ∧ w5.cell? ⟨w.heap.size + 1, 2, none⟩ = some (.int .u64 0) ∧ w5.cell? ⟨w.heap.size + 1, 3, none⟩ = some (.int .i64 0) := ⟨BR.cell 0, BR.cell 1, BR.cell 2, BR.cell 3⟩
   obtain ⟨f0, f1, f2, f3⟩ : w5.frozen? ⟨w.heap.size + 1, 0, none⟩ = false ∧ w5.frozen? ⟨w.heap.size + 1, 1, none⟩ = false ∧ w5.frozen? ⟨w.heap.size + 1, 2, none⟩ = false ∧ w5.frozen? ⟨w.heap.size + 1, 3, none⟩ = false := ⟨BR.frozen 0, BR.frozen 1, BR.frozen 2, BR.frozen 3⟩
   refine hK.out _ _ ⟨BX.cell 0, BX.cell 1⟩ (fun hHeld => ?_)
   clear hK K hb
   refine norm_ (a' := ?_) ?_ ?_
   rotate_left
   ·show Act.put _ (some 78) _ = _
    simp only [Act.put, pA, pB, pC]
    rfl
   refine last_ (i := 8) (N := none) (bq 9 511) rfl rfl (by kernel_rfl) (by decide) (fun K hK => ?_)
   refine skip_ (w1 := ?_) (by rfl) rfl ?_ ?_
   rotate_left
   ·go_simp
    rfl
   refine hK.out _ _ ?_
   clear hK K
   refine done_ (by kernel_rfl) ?_
   go_wp2_with fail
   have B2 : Blk _ (w.heap.size + 1) 37 #[.int .i64 r0, .bool r1, .int .u64 r2, .int .i64 r3] := (((BR.set_ 0 (.int .i64 r0)).set_ 1 (.bool r1)).set_ 2 (.int .u64 r2)).set_ 3 (.int .i64 r3)
   have HB2 := ((((HBd.setCell (p := ⟨w.heap.size + 1, 0, none⟩) (by show w.heap.size ≤ w.heap.size + 1; omega) (.int .i64 r0)).setCell (p := ⟨w.heap.size + 1, 1, none⟩) (by show w.heap.size ≤ w.heap.size + 1; omega) (.bool r1)).setCell (p := ⟨w.heap.size + 1, 2, none⟩) (by show w.heap.size ≤ w.heap.size + 1; omega) (.int .u64 r2)).setCell (p := ⟨w.heap.size + 1, 3, none⟩) (by show w.heap.size ≤ w.heap.size + 1; omega) (.int .i64 r3))
   exact bodyPost_ret (results_cell_row rfl _ _ (w.heap.size + 1) 37 _ (0, 0) _ rfl B2 Tryz.underlying37 rfl (by kernel_rfl)) rfl ⟨rfl, HB2⟩
  ·skip
   have HSr := (fun A1 n1 c1 W h hn hc => r1shr_calls A1 n1 c1 (blen (oddN N) - 64) (digs (oddN N)) W h hn hc (by omega))
   rw [valL_digs] at HSr
   have hc1 : (((blen (oddN N) - 64 : Nat) : Int)) = (blen (oddN N) : Int) - 64 := by omega
   rw [hc1] at HSr
   generalize hT : oddN N / 2 ^ (blen (oddN N) - 64) = T at HSr w2 w3 w5
   have hT2 : ∀ n', (digs T).length = n' → n' ≤ 2 := fun n' h => digs_two (by omega) h
   obtain ⟨L, hL⟩ : ∃ L : Int, L = (blen (oddN N) : Int) := ⟨_, rfl⟩
   have hL1 : ¬ L ≤ 64 := by omega
   have hL2 : L ≤ 32000 := by omega
   have hL3 : 64 < L := by omega
   have HF := fun W => r5fin_calls neg ((T + 1 : Nat) : Int) (pe + (blen (oddN N) : Int) - 64) (up != neg) W
   rw [w4, w5] at HF
   have HAd := (fun A n c B m d W g h hn hm => r1add_calls A n c (digs T) B m d [1] W g h hn hm)
   rw [valL_digs, show valL [1] = 1 from rfl] at HAd
   have hA2 : ∀ n', (digs (T + 1)).length = n' → n' ≤ 2 := fun n' h => digs_two w2 h
   have hbl : (blen (T + 1) : Int) ≤ 64 := by omega
   have HL2 : ∀ A1 n1 c1 (W : World), SlU W W.heap.size A1 n1 (digs (T + 1)) → n1 ≤ 2 → n1 ≤ c1 → Calls Tryz.prog 128 #[.slice A1 n1 c1] W fun e w' => e = .returned (.int .i64 (blen (T + 1))) ∧ Below W.heap.size W w' := fun A1 n1 c1 W h hn hc => by
    have := r1len_calls A1 n1 c1 _ W h (by omega) hc
    rwa [valL_digs] at this
   obtain ⟨L2, hL2'⟩ : ∃ L2 : Int, L2 = (blen (T + 1) : Int) := ⟨_, rfl⟩
   have hlL2 : L2 ≤ 64 := by omega
   rw [← hL2'] at HL2
   clear hL2' hbl
   replace HW := HW (T + 1)
   generalize T + 1 = T1 at HAd hA2 HL2 HF HW
   rw [← hL] at HSr HF HL
   clear hc1 hL hT w1 w2 w3 w5 hodd hBl hlt hrd HZ hpE
   replace HMa := Lib.hid HMa
   replace HL := Lib.hid HL
   replace HSr := Lib.hid HSr
   replace HF := Lib.hid HF
   replace HW := Lib.hid HW
   obtain ⟨hpe1, hpe2⟩ := hpe
   generalize hM : (T1 : Int) = M at HF HW
   clear hM
   obtain rfl : up = !neg := by cases neg <;> cases up <;> simp_all
   replace hT2 := Lib.hid hT2
   replace HAd := Lib.hid HAd
   replace hA2 := Lib.hid hA2
   replace HL2 := Lib.hid HL2
   go_enter Tryz.func110, Tryz.ntmps110
   go_wp2_with (first
    | (go_at_call 125; (with_reducible refine (HMa.out _ (hs.out.on HBd)).mono ?_); rintro e1 w1 ⟨A1, n1, c1, rfl, hc1, S1, hb1⟩; replace BR := BR.call hb1; replace HBd := bl_trans HBd hb1; have hn0 := (digs_none (oddN N) S1.1).2 (oddN_pos.2 hN); have hn1 := hO2.out n1 S1.1; have hne : ((n1 : Int) == 0) = false := (by simp; omega); replace S1 := Lib.hid (S1.on (bl_alloc (Below.refl w1.heap.size w1) (.cells #[.bool neg, .slice A1 n1 c1, .int .i64 pe] 128))); have BX : Blk (w1.alloc (.cells #[.bool neg, .slice A1 n1 c1, .int .i64 pe] 128)) w1.heap.size 128 #[.bool neg, .slice A1 n1 c1, .int .i64 pe] := Blk.new w1 _ _; replace BR := BR.alloc (.cells #[.bool neg, .slice A1 n1 c1, .int .i64 pe] 128); replace HBd := bl_alloc HBd (.cells #[.bool neg, .slice A1 n1 c1, .int .i64 pe] 128); clear hb1)
    | (go_at_call 128; (with_reducible refine (HL.out A1 n1 c1 _ S1.out hn1 hc1).mono ?_); rintro e1 w2 ⟨rfl, hb2⟩; replace BX := BX.call hb2; replace BR := BR.call hb2; replace HBd := bl_trans HBd hb2; have hlx := BX.lt; replace S1 := Lib.hid (S1.out.on hb2); obtain ⟨xc0, xc1, xc2⟩ : w2.cell? ⟨w1.heap.size, 0, none⟩ = some (.bool neg) ∧ w2.cell? ⟨w1.heap.size, 1, none⟩ = some (.slice A1 n1 c1) ∧ w2.cell? ⟨w1.heap.size, 2, none⟩ = some (.int .i64 pe) := ⟨BX.cell 0, BX.cell 1, BX.cell 2⟩; clear hb2 hne)
    | (go_at_call 132; (with_reducible refine (HSr.out A1 n1 c1 _ S1.out (by omega) hc1).mono ?_); rintro e1 w3 ⟨A3, n3, c3, rfl, hc3, S3, hb3⟩; replace BX := BX.call hb3; replace BR := BR.call hb3; replace HBd := bl_trans HBd hb3; replace S3 := Lib.hid S3; have hn3 := hT2.out n3 S3.out.1; clear hlx; have hlx := BX.lt; obtain ⟨vc0, vc1, vc2⟩ : w3.cell? ⟨w1.heap.size, 0, none⟩ = some (.bool neg) ∧ w3.cell? ⟨w1.heap.size, 1, none⟩ = some (.slice A1 n1 c1) ∧ w3.cell? ⟨w1.heap.size, 2, none⟩ = some (.int .i64 pe) := ⟨BX.cell 0, BX.cell 1, BX.cell 2⟩; clear xc0 xc1 xc2 hb3)
    | (go_at_call 133; (with_reducible refine (HAd.out A3 n3 c3 (some ⟨w3.heap.size, 0, none⟩) 1 1 (w3.alloc (.cells #[.int .u32 1] 117)) (S3.out.on (bl_alloc (Below.refl _ _) _)) (SlU.lit1 (Blk.new w3 _ _) (by decide) (by decide) (by simp)) (by omega) (by omega)).mono ?_); rintro e1 w4 ⟨A4, n4, c4, rfl, hc4, S4, hbq⟩; replace BX := (BX.alloc (.cells #[.int .u32 1] 117)).call hbq; replace BR := (BR.alloc (.cells #[.int .u32 1] 117)).call hbq; replace HBd := bl_trans (bl_alloc HBd (.cells #[.int .u32 1] 117)) hbq; replace S4 := Lib.hid S4; have hn4 := hA2.out n4 S4.out.1; clear hlx; have hlx := BX.lt; obtain ⟨vc0, vc1, vc2⟩ : w4.cell? ⟨w1.heap.size, 0, none⟩ = some (.bool neg) ∧ w4.cell? ⟨w1.heap.size, 1, none⟩ = some (.slice A1 n1 c1) ∧ w4.cell? ⟨w1.heap.size, 2, none⟩ = some (.int .i64 pe) := ⟨BX.cell 0, BX.cell 1, BX.cell 2⟩; clear hbq)
    | (go_at_call 128; (with_reducible refine (HL2.out A4 n4 c4 _ S4.out hn4 hc4).mono ?_); rintro e1 w5 ⟨rfl, hbq⟩; replace BX := BX.call hbq; replace BR := BR.call hbq; replace HBd := bl_trans HBd hbq; replace S4 := Lib.hid (S4.out.on hbq); clear hlx vc0 vc1 vc2; have hlx := BX.lt; obtain ⟨vc0, vc1, vc2⟩ : w5.cell? ⟨w1.heap.size, 0, none⟩ = some (.bool neg) ∧ w5.cell? ⟨w1.heap.size, 1, none⟩ = some (.slice A1 n1 c1) ∧ w5.cell? ⟨w1.heap.size, 2, none⟩ = some (.int .i64 pe) := ⟨BX.cell 0, BX.cell 1, BX.cell 2⟩; clear hbq)
    )
   generalize w1.heap.size = g at BX vc0 vc1 vc2 hlx ⊢
   clear hlx
   generalize pe + L - 64 = E at HF ⊢
   replace BX := BX.drew
   replace BR := BR.drew
   replace HBd := bl_drew HBd
   replace S4 := Lib.hid (S4.out.on (bl_drew (Below.refl _ _)))
   refine start_ (n := 9) (S := fun w' => w'.cell? ⟨g, 0, none⟩ = some (.bool neg) ∧ w'.cell? ⟨g, 1, none⟩ = some (.slice A1 n1 c1)) (ds := [8]) (bq 9 0) (by kernel_rfl) rfl rfl ⟨BX.cell 0, BX.cell 1⟩ (fun hHeld => ?_)
   refine pure_ (i := 0) (N := some 71) (v := ?_) (a' := ?_) (bq 9 1) rfl rfl (by kernel_rfl) (fun _ _ _ h => h) (Or.inl ⟨by rfl, ?_⟩) ?_ ?_
   rotate_left
   ·intro w'
    go_simp
    with_reducible rfl
   rotate_left
   ·simp only [Act.put, pA, pB, pC]
    rfl
   refine pure_ (i := 1) (N := some 72) (v := ?_) (a' := ?_) (bq 9 3) rfl rfl (by kernel_rfl) (fun _ _ _ h => h) (Or.inl ⟨by rfl, ?_⟩) ?_ ?_
   rotate_left
   ·intro w'
    go_simp
    with_reducible rfl
   rotate_left
   ·simp only [Act.put, pA, pB, pC]
    rfl
   refine take_ (i := 2) (N := some 73) (v := ?_) (a' := ?_) (bq 9 7) rfl rfl (by kernel_rfl) (fun _ _ _ h => h) (Or.inl ⟨by rfl, ?_⟩) hHeld ?_ ?_
   rotate_left
   ·rintro w' ⟨s0_, s1_⟩
    go_simp
    with_reducible rfl
   rotate_left
   ·simp only [Act.put, pA, pB, pC]
    rfl
   refine pure_ (i := 3) (N := some 74) (v := ?_) (a' := ?_) (bq 9 15) rfl rfl (by kernel_rfl) (fun _ _ _ h => h) (Or.inl ⟨by rfl, ?_⟩) ?_ ?_
   rotate_left
   ·intro w'
    go_simp
    with_reducible rfl
   rotate_left
   ·simp only [Act.put, pA, pB, pC]
    rfl
   refine pure_ (i := 5) (N := some 76) (v := ?_) (a' := ?_) (bq 9 47) rfl rfl (by kernel_rfl) (fun _ _ _ h => h) (Or.inl ⟨by rfl, ?_⟩) ?_ ?_
   rotate_left
   ·intro w'
    go_simp
    with_reducible rfl
   rotate_left
   ·simp only [Act.put, pA, pB, pC]
    rfl
   refine pure_ (i := 6) (N := some 77) (v := ?_) (a' := ?_) (bq 9 111) rfl rfl (by kernel_rfl) (fun _ _ _ h => h) (Or.inl ⟨by rfl, ?_⟩) ?_ ?_
   rotate_left
   ·intro w'
    go_simp
    with_reducible rfl
   rotate_left
   ·simp only [Act.put, pA, pB, pC]
    rfl
   refine one_ (i := 4) (N := some 75) (bq 9 127) rfl rfl (by kernel_rfl) (by decide) (fun K hK => ?_)
   refine goes_ Tryz.func130 (by kernel_rfl) rfl #[.slice A4 n4 c4] (by first | rfl | go_simp) rfl rfl (by simp only [List.map_toArray, List.map_cons, List.map_nil] <;> rfl) ?_
   with_reducible refine (HW.out A4 n4 c4 _ S4.out hn4 hc4).mono ?_
   rintro e1 w8 ⟨rfl, hw⟩
   refine ⟨_, rfl, ?_⟩
   obtain rfl := hw.symm
   have hb := Below.refl w5.drew.heap.size w5.drew
   refine hK.out _ _ ⟨BX.cell 0, BX.cell 1⟩ (fun hHeld => ?_)
   clear hK K hb
   refine norm_ (a' := ?_) ?_ ?_
   rotate_left
   ·show Act.put _ (some 75) _ = _
    simp only [Act.put, pA, pB, pC]
    rfl
   refine one_ (i := 7) (N := some 78) (bq 9 255) rfl rfl (by kernel_rfl) (by decide) (fun K hK => ?_)
   refine goes_ Tryz.func129 (by kernel_rfl) rfl #[.bool neg, .int .u64 M, .int .i64 E, .bool true] (by first | rfl | go_simp) rfl rfl (by simp only [List.map_toArray, List.map_cons, List.map_nil] <;> rfl) ?_
   with_reducible refine (HF.out _).mono ?_
   rintro e1 w5 ⟨rfl, hb⟩
   refine ⟨_, rfl, ?_⟩
   replace BR := BR.call hb
   replace BX := BX.call hb
   replace HBd := bl_trans HBd hb
   obtain ⟨z0, z1, z2, z3⟩ : w5.cell? ⟨w.heap.size + 1, 0, none⟩ = some (.int .i64 0) ∧ w5.cell? ⟨w.heap.size + 1, 1, none⟩ = some (.bool false) ∧ w5.cell? ⟨w.heap.size + 1, 2, none⟩ = some (.int .u64 0) ∧ w5.cell? ⟨w.heap.size + 1, 3, none⟩ = some (.int .i64 0) := ⟨BR.cell 0, BR.cell 1, BR.cell 2, BR.cell 3⟩
   obtain ⟨f0, f1, f2, f3⟩ : w5.frozen? ⟨w.heap.size + 1, 0, none⟩ = false ∧ w5.frozen? ⟨w.heap.size + 1, 1, none⟩ = false ∧ w5.frozen? ⟨w.heap.size + 1, 2, none⟩ = false ∧ w5.frozen? ⟨w.heap.size + 1, 3, none⟩ = false := ⟨BR.frozen 0, BR.frozen 1, BR.frozen 2, BR.frozen 3⟩
   refine hK.out _ _ ⟨BX.cell 0, BX.cell 1⟩ (fun hHeld => ?_)
   clear hK K hb
   refine norm_ (a' := ?_) ?_ ?_
   rotate_left
   ·show Act.put _ (some 78) _ = _
    simp only [Act.put, pA, pB, pC]
    rfl
   refine last_ (i := 8) (N := none) (bq 9 511) rfl rfl (by kernel_rfl) (by decide) (fun K hK => ?_)
   refine skip_ (w1 := ?_) (by rfl) rfl ?_ ?_
   rotate_left
   ·go_simp
    rfl
   refine hK.out _ _ ?_
   clear hK K
   refine done_ (by kernel_rfl) ?_
   go_wp2_with fail
   have B2 : Blk _ (w.heap.size + 1) 37 #[.int .i64 r0, .bool r1, .int .u64 r2, .int .i64 r3] := (((BR.set_ 0 (.int .i64 r0)).set_ 1 (.bool r1)).set_ 2 (.int .u64 r2)).set_ 3 (.int .i64 r3)
   have HB2 := ((((HBd.setCell (p := ⟨w.heap.size + 1, 0, none⟩) (by show w.heap.size ≤ w.heap.size + 1; omega) (.int .i64 r0)).setCell (p := ⟨w.heap.size + 1, 1, none⟩) (by show w.heap.size ≤ w.heap.size + 1; omega) (.bool r1)).setCell (p := ⟨w.heap.size + 1, 2, none⟩) (by show w.heap.size ≤ w.heap.size + 1; omega) (.int .u64 r2)).setCell (p := ⟨w.heap.size + 1, 3, none⟩) (by show w.heap.size ≤ w.heap.size + 1; omega) (.int .i64 r3))
   exact bodyPost_ret (results_cell_row rfl _ _ (w.heap.size + 1) 37 _ (0, 0) _ rfl B2 Tryz.underlying37 rfl (by kernel_rfl)) rfl ⟨rfl, HB2⟩
end Go.Proofs.YtagojbgmgkkdpaaGreat.Wk

/- Walks: the reference's Exact, Neg. -/
namespace Go.Proofs.YtagojbgmgkkdpaaGreat.Wk
open Go.RowKit Go.Proofs.Pl Go.Proofs.YtagojbgmgkkdpaaGreatW.PrintLast
set_option linter.unusedSimpArgs false
set_option linter.unusedVariables false

/-- what Exact leaves -/
def RetEx (w : World) (neg : Bool) (N : Nat) (e : Int) (en : Ending) (w' : World) : Prop := ∃ A n c, en = .returned (.tuple #[.agg #[.bool (neg && decide (0 < N)), .slice A n c, .int .i64 (dyE N e)], .bool true]) ∧ n ≤ c ∧ SlU w' w'.heap.size A n (digs (oddN N)) ∧ Below w.heap.size w w'
set_option maxRecDepth 100000 in
set_option maxHeartbeats 4000000 in
theorem r5exact_calls (a0 : Int) (a1 : Bool) (a2 a3 : Int) (w : World) (hm : mayN ⟨a0, a1, a2, a3⟩ = true) (hk : a0 ≠ 2) (hw : Wf ⟨a0, a1, a2, a3⟩) (he : -1000000 ≤ a3 ∧ a3 ≤ 1000000) :
  Calls Tryz.prog 109 #[.agg #[.int .i64 a0, .bool a1, .int .u64 a2, .int .i64 a3]] w (RetEx w a1 a2.toNat a3) := by
 have BX0 := Blk.new w 37 #[.int .i64 a0, .bool a1, .int .u64 a2, .int .i64 a3]
 have HMy := Lib.hid (fun W => rmayN_calls a0 a1 a2 a3 W)
 rw [hm] at HMy
 have hcs := may_cases hm
 have HB0 := (bl_alloc (bl_alloc (Below.refl w.heap.size w) (.cells #[.int .i64 a0, .bool a1, .int .u64 a2, .int .i64 a3] 37)) (.cells #[.bool false, .slice none 0 0, .int .i64 0] 128))
 have BX : Blk _ w.heap.size 37 #[.int .i64 a0, .bool a1, .int .u64 a2, .int .i64 a3] := Blk.alloc (Blk.new w _ _) (.cells #[.bool false, .slice none 0 0, .int .i64 0] 128)
 have BR : Blk _ (w.heap.size + 1) 128 #[.bool false, .slice none 0 0, .int .i64 0] := Blk.new1 w (.cells #[.int .i64 a0, .bool a1, .int .u64 a2, .int .i64 a3] 37) _ _
 clear BX0
 rename Below _ _ _ => HBd
 simp only at hcs
 unfold Wf at hw
 simp only at hw
 rcases hcs with ⟨h0, h1, h2, h3⟩ | ⟨h0, h1, h2, h3⟩ | ⟨h0, _⟩
 ·subst h0 h1 h2 h3
  have hR : RetEx w false (0 : Int).toNat 0 = fun en w' => ∃ A n c, en = .returned (.tuple #[.agg #[.bool false, .slice A n c, .int .i64 0], .bool true]) ∧ n ≤ c ∧ SlU w' w'.heap.size A n [] ∧ Below w.heap.size w w' := by
   unfold RetEx
   rw [show (0 : Int).toNat = 0 from rfl, oddN_zero, digs_zero, dyE_zero]
   rfl
  rw [hR]
  clear hR hm hk hw he
  go_enter Tryz.func109, Tryz.ntmps109
  go_wp2_with (go_at_call 82; (with_reducible refine (HMy.out _).mono ?_); rintro e1 w1 ⟨rfl, hb1⟩; replace BX := BX.call hb1; replace BR := BR.call hb1; replace HBd := bl_trans HBd hb1; obtain ⟨⟨x0, x1, x2, x3⟩, _⟩ := BX.c4; obtain ⟨z0, z1, z2⟩ : w1.cell? ⟨w.heap.size + 1, 0, none⟩ = some (.bool false) ∧ w1.cell? ⟨w.heap.size + 1, 1, none⟩ = some (.slice none 0 0) ∧ w1.cell? ⟨w.heap.size + 1, 2, none⟩ = some (.int .i64 0) := ⟨BR.cell 0, BR.cell 1, BR.cell 2⟩; obtain ⟨f0, f1, f2⟩ : w1.frozen? ⟨w.heap.size + 1, 0, none⟩ = false ∧ w1.frozen? ⟨w.heap.size + 1, 1, none⟩ = false ∧ w1.frozen? ⟨w.heap.size + 1, 2, none⟩ = false := ⟨BR.frozen 0, BR.frozen 1, BR.frozen 2⟩)
  have B2 : Blk _ (w.heap.size + 1) 128 #[.bool false, .slice none 0 0, .int .i64 0] := (((BR.set_ 0 (.bool false)).set_ 1 (.slice none 0 0)).set_ 2 (.int .i64 0))
  have HB2 := (((HBd.setCell (p := ⟨w.heap.size + 1, 0, none⟩) (by show w.heap.size ≤ w.heap.size + 1; omega) (.bool false)).setCell (p := ⟨w.heap.size + 1, 1, none⟩) (by show w.heap.size ≤ w.heap.size + 1; omega) (.slice none 0 0)).setCell (p := ⟨w.heap.size + 1, 2, none⟩) (by show w.heap.size ≤ w.heap.size + 1; omega) (.int .i64 0))
  clear z0 z1 z2 x0 x1 x2 x3
  obtain ⟨l0, l1, l2⟩ := (⟨B2.cell 0, B2.cell 1, B2.cell 2⟩ : _ ∧ _ ∧ _)
  exact bodyPost_ret (v := .tuple #[.agg #[.bool false, .slice none 0 0, .int .i64 0], .bool true]) (by simp [results, Tryz.results109, go_sem, l0, l1, l2]) rfl ⟨none, 0, 0, rfl, Nat.le_refl _, SlU.nil _ _ _, HB2⟩
 ·subst h0
  obtain ⟨w1, w2⟩ := hw
  have HLm := Lib.hid (fun W => r5limbs_calls a2 w1 w2 W)
  have HMk := fun A xs (hv : valL xs = a2.toNat) W h => r2make_calls a1 A 2 2 xs W h (by decide) (Nat.le_refl _)
  have hl2 : ∀ n', (digs a2.toNat).length = n' → n' ≤ 2 := fun n' h => digs_two (by omega) h
  have HM3 := (fun A n c W h (hn : n ≤ 2) hc => r3make_calls (a1 && decide (0 < a2.toNat)) A n c (digs a2.toNat) a3 W h (by omega) hc (by omega) (by omega))
  rw [valL_digs] at HM3
  replace HMk : ∀ A xs, valL xs = a2.toNat → ∀ W, SlU W W.heap.size A 2 xs → Calls Tryz.prog 126 #[.bool a1, .slice A 2 2] W (RetW W a1 a2.toNat) := fun A xs hv W h => by have := HMk A xs hv W h; rwa [hv] at this
  replace HM3 := (fun A n c W h hn hc => (HM3 A n c W h hn hc).mono fun e w' h => retDy_of (neg' := a1) h (fun h0 => by rw [decide_eq_true h0, Bool.and_true]))
  unfold RetW at HMk
  unfold RetDy at HM3
  generalize hm2 : a2.toNat = M at HLm HMk hl2 HM3 ⊢
  generalize hsv : (a1 && decide (0 < M)) = sv at HMk HM3
  generalize hpv : dyE M a3 = pv at HM3
  replace hsv := Lib.hid hsv
  replace hpv := Lib.hid hpv
  replace HMk := Lib.hid HMk
  replace HM3 := Lib.hid HM3
  replace hl2 := Lib.hid hl2
  clear hm hm2 hk
  go_enter Tryz.func109, Tryz.ntmps109
  go_wp2_with (go_at_call 82; (with_reducible refine (HMy.out _).mono ?_); rintro e1 w1 ⟨rfl, hb1⟩; replace BX := BX.call hb1; replace BR := BR.call hb1; replace HBd := bl_trans HBd hb1; obtain ⟨⟨x0, x1, x2, x3⟩, _⟩ := BX.c4)
  replace BX := BX.drew
  replace BR := BR.drew
  replace HBd := bl_drew HBd
  refine start_ (n := 11) (S := fun w' => w'.cell? ⟨w.heap.size, 0, none⟩ = some (.int .i64 1) ∧ w'.cell? ⟨w.heap.size, 1, none⟩ = some (.bool a1) ∧ w'.cell? ⟨w.heap.size, 2, none⟩ = some (.int .u64 a2) ∧ w'.cell? ⟨w.heap.size, 3, none⟩ = some (.int .i64 a3)) (ds := [9]) (bq 11 0) (by kernel_rfl) rfl rfl ⟨BX.cell 0, BX.cell 1, BX.cell 2, BX.cell 3⟩ (fun hHeld => ?_)
  refine pure_ (i := 0) (N := some 19) (v := ?_) (a' := ?_) (bq 11 1) rfl rfl (by kernel_rfl) (fun _ _ _ h => h) (Or.inl ⟨by rfl, ?_⟩) ?_ ?_
  rotate_left
  ·intro w'
   go_simp
   with_reducible rfl
  rotate_left
  ·simp only [Act.put, pA, pB, pC]
   rfl
  refine take_ (i := 1) (N := some 20) (v := ?_) (a' := ?_) (bq 11 3) rfl rfl (by kernel_rfl) (fun _ _ _ h => h) (Or.inl ⟨by rfl, ?_⟩) hHeld ?_ ?_
  rotate_left
  ·rintro w' ⟨s0_, s1_, s2_, s3_⟩
   go_simp
   with_reducible rfl
  rotate_left
  ·simp only [Act.put, pA, pB, pC]
   rfl
  refine pure_ (i := 2) (N := some 21) (v := ?_) (a' := ?_) (bq 11 7) rfl rfl (by kernel_rfl) (fun _ _ _ h => h) (Or.inl ⟨by rfl, ?_⟩) ?_ ?_
  rotate_left
  ·intro w'
   go_simp
   with_reducible rfl
  rotate_left
  ·simp only [Act.put, pA, pB, pC]
   rfl
  refine take_ (i := 3) (N := some 22) (v := ?_) (a' := ?_) (bq 11 15) rfl rfl (by kernel_rfl) (fun _ _ _ h => h) (Or.inl ⟨by rfl, ?_⟩) hHeld ?_ ?_
  rotate_left
  ·rintro w' ⟨s0_, s1_, s2_, s3_⟩
   go_simp
   with_reducible rfl
  rotate_left
  ·simp only [Act.put, pA, pB, pC]
   rfl
  refine pure_ (i := 6) (N := some 25) (v := ?_) (a' := ?_) (bq 11 79) rfl rfl (by kernel_rfl) (fun _ _ _ h => h) (Or.inl ⟨by rfl, ?_⟩) ?_ ?_
  rotate_left
  ·intro w'
   go_simp
   with_reducible rfl
  rotate_left
  ·simp only [Act.put, pA, pB, pC]
   rfl
  refine take_ (i := 7) (N := some 26) (v := ?_) (a' := ?_) (bq 11 207) rfl rfl (by kernel_rfl) (fun _ _ _ h => h) (Or.inl ⟨by rfl, ?_⟩) hHeld ?_ ?_
  rotate_left
  ·rintro w' ⟨s0_, s1_, s2_, s3_⟩
   go_simp
   with_reducible rfl
  rotate_left
  ·simp only [Act.put, pA, pB, pC]
   rfl
  refine one_ (i := 4) (N := some 23) (bq 11 223) rfl rfl (by kernel_rfl) (by decide) (fun K hK => ?_)
  refine goes_ Tryz.func127 (by kernel_rfl) rfl #[.int .u64 a2] (by first | rfl | go_simp) rfl rfl (by simp only [List.map_toArray, List.map_cons, List.map_nil] <;> rfl) ?_
  with_reducible refine (HLm.out _).mono ?_
  rintro e1 w3 ⟨A3, xs3, rfl, S3, hv3, hb⟩
  refine ⟨_, rfl, ?_⟩
  replace S3 := Lib.hid S3
  replace hv3 := Lib.hid hv3
  replace BX := BX.call hb
  replace BR := BR.call hb
  replace HBd := bl_trans HBd hb
  refine hK.out _ _ ⟨BX.cell 0, BX.cell 1, BX.cell 2, BX.cell 3⟩ (fun hHeld => ?_)
  clear hK K hb
  refine norm_ (a' := ?_) ?_ ?_
  rotate_left
  ·show Act.put _ (some 23) _ = _
   simp only [Act.put, pA, pB, pC]
   rfl
  refine one_ (i := 5) (N := some 24) (bq 11 255) rfl rfl (by kernel_rfl) (by decide) (fun K hK => ?_)
  refine goes_ Tryz.func126 (by kernel_rfl) rfl #[.bool a1, .slice A3 2 2] (by first | rfl | go_simp) rfl rfl (by simp only [List.map_toArray, List.map_cons, List.map_nil] <;> rfl) ?_
  with_reducible refine (HMk.out _ _ hv3.out _ S3.out).mono ?_
  rintro e1 w4 ⟨A4, n4, c4, rfl, hc4, S4, hb⟩
  refine ⟨_, rfl, ?_⟩
  replace S4 := Lib.hid S4
  replace BX := BX.call hb
  replace BR := BR.call hb
  replace HBd := bl_trans HBd hb
  have hn4 := hl2.out _ S4.out.1
  refine hK.out _ _ ⟨BX.cell 0, BX.cell 1, BX.cell 2, BX.cell 3⟩ (fun hHeld => ?_)
  clear hK K hb
  refine norm_ (a' := ?_) ?_ ?_
  rotate_left
  ·show Act.put _ (some 24) _ = _
   simp only [Act.put, pA, pB, pC]
   rfl
  refine one_ (i := 8) (N := some 27) (bq 11 511) rfl rfl (by kernel_rfl) (by decide) (fun K hK => ?_)
  refine goes_ Tryz.func125 (by kernel_rfl) rfl #[.agg #[.bool sv, .slice A4 n4 c4], .int .i64 a3] (by first | rfl | go_simp) rfl rfl (by simp only [List.map_toArray, List.map_cons, List.map_nil] <;> rfl) ?_
  with_reducible refine (HM3.out _ _ _ _ S4.out hn4 hc4).mono ?_
  rintro e1 w5 ⟨A5, n5, c5, rfl, hc5, S5, hb⟩
  refine ⟨_, rfl, ?_⟩
  replace S5 := Lib.hid S5
  replace BX := BX.call hb
  replace BR := BR.call hb
  replace HBd := bl_trans HBd hb
  obtain ⟨z0, z1, z2⟩ : w5.cell? ⟨w.heap.size + 1, 0, none⟩ = some (.bool false) ∧ w5.cell? ⟨w.heap.size + 1, 1, none⟩ = some (.slice none 0 0) ∧ w5.cell? ⟨w.heap.size + 1, 2, none⟩ = some (.int .i64 0) := ⟨BR.cell 0, BR.cell 1, BR.cell 2⟩
  obtain ⟨f0, f1, f2⟩ : w5.frozen? ⟨w.heap.size + 1, 0, none⟩ = false ∧ w5.frozen? ⟨w.heap.size + 1, 1, none⟩ = false ∧ w5.frozen? ⟨w.heap.size + 1, 2, none⟩ = false := ⟨BR.frozen 0, BR.frozen 1, BR.frozen 2⟩
  refine hK.out _ _ ⟨BX.cell 0, BX.cell 1, BX.cell 2, BX.cell 3⟩ (fun hHeld => ?_)
  clear hK K hb
  refine norm_ (a' := ?_) ?_ ?_
  rotate_left
  ·show Act.put _ (some 27) _ = _
   simp only [Act.put, pA, pB, pC]
   rfl
  refine last_ (i := 9) (N := none) (bq 11 1023) rfl rfl (by kernel_rfl) (by decide) (fun K hK => ?_)
  refine skip_ (w1 := ?_) (by rfl) rfl ?_ ?_
  rotate_left
  ·go_simp
   rfl
  refine hK.out _ _ ?_
  clear hK K
  refine pure_ (i := 10) (N := some 3) (v := ?_) (a' := ?_) (bq 11 2047) rfl rfl (by kernel_rfl) (fun _ _ _ h => h) (Or.inl ⟨by rfl, ?_⟩) ?_ ?_
  rotate_left
  ·intro w'
   go_simp
   with_reducible rfl
  rotate_left
  ·simp only [Act.put, pA, pB, pC]
   rfl
  refine done_ (by kernel_rfl) ?_
  go_wp2_with fail
  have B2 : Blk _ (w.heap.size + 1) 128 #[.bool sv, .slice A5 n5 c5, .int .i64 pv] := (((BR.set_ 0 (.bool sv)).set_ 1 (.slice A5 n5 c5)).set_ 2 (.int .i64 pv))
  have HB2 := (((HBd.setCell (p := ⟨w.heap.size + 1, 0, none⟩) (by show w.heap.size ≤ w.heap.size + 1; omega) (.bool sv)).setCell (p := ⟨w.heap.size + 1, 1, none⟩) (by show w.heap.size ≤ w.heap.size + 1; omega) (.slice A5 n5 c5)).setCell (p := ⟨w.heap.size + 1, 2, none⟩) (by show w.heap.size ≤ w.heap.size + 1; omega) (.int .i64 pv))
  have S6 := ((S5.out.st BR (noU3 _ _ _ _ _) 0 (.bool sv)).st (BR.set_ 0 _) (noU3 _ _ _ _ _) 1 (.slice A5 n5 c5)).st ((BR.set_ 0 _).set_ 1 _) (noU3 _ _ _ _ _) 2 (.int .i64 pv)
  clear z0 z1 z2
  obtain ⟨l0, l1, l2⟩ := (⟨B2.cell 0, B2.cell 1, B2.cell 2⟩ : _ ∧ _ ∧ _)
  exact bodyPost_ret (v := .tuple #[.agg #[.bool sv, .slice A5 n5 c5, .int .i64 pv], .bool true]) (by simp [results, Tryz.results109, go_sem, l0, l1, l2]) rfl ⟨A5, n5, c5, by rw [hsv.out, hpv.out], hc5, S6, HB2⟩
 ·exact absurd h0 hk
set_option maxRecDepth 100000 in
set_option maxHeartbeats 4000000 in
theorem r5neg_calls (a0 : Int) (a1 : Bool) (a2 a3 : Int) (w : World) :
  Calls Tryz.prog 83 #[.agg #[.int .i64 a0, .bool a1, .int .u64 a2, .int .i64 a3]] w fun e w' => e = .returned (.agg #[.int .i64 (negN ⟨a0, a1, a2, a3⟩).k, .bool (negN ⟨a0, a1, a2, a3⟩).n, .int .u64 (negN ⟨a0, a1, a2, a3⟩).m, .int .i64 (negN ⟨a0, a1, a2, a3⟩).e]) ∧ Below w.heap.size w w' := by
 have HF := Lib.hid (rfairN_calls a0 a1 a2 a3)
 have hcs := may_cases (mayN_fair ⟨a0, a1, a2, a3⟩)
 unfold negN
 generalize fairN ⟨a0, a1, a2, a3⟩ = f at HF hcs ⊢
 obtain ⟨f0, f1, f2, f3⟩ := f
 unfold negF
 replace HF : Hid (∀ w, Calls Tryz.prog 54 #[.agg #[.int .i64 a0, .bool a1, .int .u64 a2, .int .i64 a3]] w fun e w' => e = .returned (.agg #[.int .i64 f0, .bool f1, .int .u64 f2, .int .i64 f3]) ∧ Below w.heap.size w w') := HF
 show Calls Tryz.prog 83 #[.agg #[.int .i64 a0, .bool a1, .int .u64 a2, .int .i64 a3]] w fun e w' => e = .returned (.agg #[.int .i64 f0, .bool (!(f0 == 0) && !f1), .int .u64 f2, .int .i64 f3]) ∧ Below w.heap.size w w'
 have hz : f0 = 0 → f1 = false := fun h => by
  simp only at hcs
  rcases hcs with ⟨_, h1, _⟩ | ⟨h1, _⟩ | ⟨h1, _⟩
  ·exact h1
  ·omega
  ·omega
 clear hcs
 have BR : Blk _ (w.heap.size + 1) 37 #[.int .i64 0, .bool false, .int .u64 0, .int .i64 0] := Blk.new1 w (.cells #[.int .i64 a0, .bool a1, .int .u64 a2, .int .i64 a3] 37) _ _
 have HBd := (bl_alloc (bl_alloc (Below.refl w.heap.size w) (.cells #[.int .i64 a0, .bool a1, .int .u64 a2, .int .i64 a3] 37)) (.cells #[.int .i64 0, .bool false, .int .u64 0, .int .i64 0] 37))
 by_cases h0 : f0 = 0
 ·subst h0
  have h1 := hz rfl
  subst h1
  clear hz
  go_enter Tryz.func83, Tryz.ntmps83
  go_wp2_with (go_at_call 54; (with_reducible refine (HF.out _).mono ?_); rintro e1 w1 ⟨rfl, hb⟩; replace BR := BR.call hb; replace HBd := bl_trans HBd hb; have hlr := BR.lt; obtain ⟨⟨z0, z1, z2, z3⟩, ⟨k0, k1, k2, k3⟩⟩ := BR.c4; clear hb)
  have B2 := ((((BR.set_ 0 (.int .i64 0)).set_ 1 (.bool false)).set_ 2 (.int .u64 f2)).set_ 3 (.int .i64 f3)).alloc (.cells #[.int .i64 0, .bool false, .int .u64 f2, .int .i64 f3] 37)
  have HB2 := bl_alloc ((((HBd.setCell (p := ⟨w.heap.size + 1, 0, none⟩) (by show w.heap.size ≤ w.heap.size + 1; omega) (.int .i64 0)).setCell (p := ⟨w.heap.size + 1, 1, none⟩) (by show w.heap.size ≤ w.heap.size + 1; omega) (.bool false)).setCell (p := ⟨w.heap.size + 1, 2, none⟩) (by show w.heap.size ≤ w.heap.size + 1; omega) (.int .u64 f2)).setCell (p := ⟨w.heap.size + 1, 3, none⟩) (by show w.heap.size ≤ w.heap.size + 1; omega) (.int .i64 f3)) (.cells #[.int .i64 0, .bool false, .int .u64 f2, .int .i64 f3] 37)
  exact bodyPost_ret (results_cell_row rfl _ _ (w.heap.size + 1) 37 _ (0, 0) _ rfl B2 Tryz.underlying37 rfl (by kernel_rfl)) rfl ⟨rfl, HB2⟩
 ·have hb0 : (!(f0 == 0) && !f1) = !f1 := by simp [h0]
  rw [hb0]
  clear hb0 hz
  have hne : (f0 == 0) = false := by simp [h0]
  go_enter Tryz.func83, Tryz.ntmps83
  go_wp2_with (go_at_call 54; (with_reducible refine (HF.out _).mono ?_); rintro e1 w1 ⟨rfl, hb⟩; replace BR := BR.call hb; replace HBd := bl_trans HBd hb; have hlr := BR.lt; obtain ⟨⟨z0, z1, z2, z3⟩, ⟨k0, k1, k2, k3⟩⟩ := BR.c4; clear hb)
  have B2 := ((((BR.set_ 0 (.int .i64 f0)).set_ 1 (.bool !f1)).set_ 2 (.int .u64 f2)).set_ 3 (.int .i64 f3)).alloc (.cells #[.int .i64 f0, .bool !f1, .int .u64 f2, .int .i64 f3] 37)
  have HB2 := bl_alloc ((((HBd.setCell (p := ⟨w.heap.size + 1, 0, none⟩) (by show w.heap.size ≤ w.heap.size + 1; omega) (.int .i64 f0)).setCell (p := ⟨w.heap.size + 1, 1, none⟩) (by show w.heap.size ≤ w.heap.size + 1; omega) (.bool !f1)).setCell (p := ⟨w.heap.size + 1, 2, none⟩) (by show w.heap.size ≤ w.heap.size + 1; omega) (.int .u64 f2)).setCell (p := ⟨w.heap.size + 1, 3, none⟩) (by show w.heap.size ≤ w.heap.size + 1; omega) (.int .i64 f3)) (.cells #[.int .i64 f0, .bool !f1, .int .u64 f2, .int .i64 f3] 37)
  exact bodyPost_ret (results_cell_row rfl _ _ (w.heap.size + 1) 37 _ (0, 0) _ rfl B2 Tryz.underlying37 rfl (by kernel_rfl)) rfl ⟨rfl, HB2⟩
end Go.Proofs.YtagojbgmgkkdpaaGreat.Wk

/- Plain: sums and products of numbers by their odd numbers; bounds. Nothing of Go. -/
namespace Go.Proofs.YtagojbgmgkkdpaaGreat.Wk
open Go.Proofs.Pl
set_option linter.unusedSimpArgs false
set_option linter.unusedVariables false

theorem ex_val {f : Num} (hm : mayN f = true) (hk : f.k ≠ 2) (hw : Wf f) (i : Nat) (hi : dyE f.m.toNat f.e = -BB + i) :
  sgnZ (f.n && decide (0 < f.m.toNat)) (oddN f.m.toNat * 2 ^ i) = valN f := by
 unfold Wf at hw
 rcases Nat.eq_zero_or_pos f.m.toNat with h0 | h0
 ·rw [h0, oddN_zero, Nat.zero_mul, sgnZ_zero]
  unfold valN
  rw [show f.m = 0 by omega, Int.zero_mul, Int.mul_zero]
 ·rw [decide_eq_true h0, Bool.and_true, dyE_pos h0] at *
  unfold valN sgnZ
  obtain ⟨j, hj⟩ : ∃ j : Nat, f.e + BB = j := ⟨(f.e + BB).toNat, by
   rcases may_cases hm with ⟨_, _, h, _⟩ | ⟨_, _, h1, h2⟩ | ⟨h, _⟩
   ·omega
   ·unfold BB; omega
   ·exact absurd h hk⟩
  have hij : i = twos f.m.toNat + j := by omega
  rw [hj, Int.toNat_natCast, hij, Nat.pow_add, ← Nat.mul_assoc, odd_twos]
  have hM : f.m = (f.m.toNat : Int) := by omega
  generalize f.m.toNat = M at hM
  rw [hM]
  cases f.n <;> simp [Int.natCast_mul]
theorem round_sgn (n n' : Bool) (s : Nat) (e : Int) (up : Bool) (h : 0 < s → n = n') : roundAt n s e up = roundAt n' s e up := by
 rcases Nat.eq_zero_or_pos s with h0 | h0
 ·subst h0; rfl
 ·rw [h h0]
/-- the sum's rounding, by its odd number -/
theorem add_round (V : Int) (up : Bool) : roundAt (decide (V < 0) && decide (0 < V.natAbs)) (oddN V.natAbs) (dyE V.natAbs (-BB)) up = roundAt (decide (V < 0)) V.natAbs (-BB) up := by
 rw [round_dy]
 exact round_sgn _ _ _ _ _ fun h => by rw [decide_eq_true h, Bool.and_true]
theorem mul_round (fn gn up : Bool) (X Y : Nat) (e d : Int) :
  roundAt (((fn && decide (0 < X)) != (gn && decide (0 < Y))) && decide (0 < oddN X * oddN Y)) (oddN (oddN X * oddN Y)) (dyE (oddN X * oddN Y) (dyE X e + dyE Y d)) up = roundAt (fn != gn) (X * Y) (e + d) up := by
 rw [round_dy]
 by_cases h0 : 0 < X ∧ 0 < Y
 ·obtain ⟨hx, hy⟩ := h0
  have hP : 0 < oddN X * oddN Y := Nat.mul_pos (oddN_pos.2 hx) (oddN_pos.2 hy)
  have hXY : X * Y = oddN X * oddN Y * 2 ^ (twos X + twos Y) := by
   conv => lhs; rw [← odd_twos X, ← odd_twos Y]
   rw [Nat.pow_add]
   ac_rfl
  rw [decide_eq_true hx, decide_eq_true hy, decide_eq_true hP, Bool.and_true, Bool.and_true, Bool.and_true, dyE_pos hx, dyE_pos hy, hXY, round_pow]
  congr 1
  omega
 ·have hz : X * Y = 0 := by
   rcases Nat.eq_zero_or_pos X with h1 | h1
   ·rw [h1, Nat.zero_mul]
   ·rw [show Y = 0 by omega, Nat.mul_zero]
  have hz' : oddN X * oddN Y = 0 := by
   rcases Nat.eq_zero_or_pos X with h1 | h1
   ·rw [h1, oddN_zero, Nat.zero_mul]
   ·rw [show Y = 0 by omega, oddN_zero, Nat.mul_zero]
  rw [hz, hz']
  rfl
theorem two_le (na nb : Bool) {X Y i j c : Nat} {e0 B : Int} (hX : X < 2 ^ c) (hY : Y < 2 ^ c) (hB : 0 ≤ B) (hi1 : -B ≤ e0 + i) (hj2 : e0 + j ≤ B) (hij : i ≤ j) {b : Nat} (hb : (b : Int) = 2 * B + c + 8) {V : Int} (hV : V = sgnZ na (X * 2 ^ i) + sgnZ nb (Y * 2 ^ j)) :
  oddN V.natAbs < 2 ^ b ∧ -B ≤ dyE V.natAbs e0 ∧ dyE V.natAbs e0 ≤ B + b := by
 have hV2 : V = (sgnZ na X + sgnZ nb (Y * 2 ^ (j - i))) * ((2 ^ i : Nat) : Int) := by
  rw [hV, Int.add_mul, ← sgnZ_mul, ← sgnZ_mul, Nat.mul_assoc, ← Nat.pow_add, Nat.sub_add_cancel hij]
 have hn : V.natAbs = (sgnZ na X + sgnZ nb (Y * 2 ^ (j - i))).natAbs * 2 ^ i := by rw [hV2, Int.natAbs_mul]; rfl
 obtain ⟨d1, d2⟩ := dy_pow (sgnZ na X + sgnZ nb (Y * 2 ^ (j - i))).natAbs i e0
 have hY2 : Y * 2 ^ (j - i) < 2 ^ (b - 8) := by
  have h1 := Nat.mul_lt_mul_of_lt_of_le hY (Nat.le_refl (2 ^ (j - i))) (Nat.pow_pos (by decide))
  rw [← Nat.pow_add] at h1
  exact Nat.lt_of_lt_of_le h1 (Nat.pow_le_pow_right (by decide) (by omega))
 have hX2 : X < 2 ^ (b - 8) := Nat.lt_of_lt_of_le hX (Nat.pow_le_pow_right (by decide) (by omega))
 have hZ : (sgnZ na X + sgnZ nb (Y * 2 ^ (j - i))).natAbs < 2 ^ b := by
  have e1 : (2 : Nat) ^ b = 2 ^ (b - 8) * 256 := by rw [show b = b - 8 + 8 by omega, Nat.pow_add, show b - 8 + 8 - 8 = b - 8 by omega]
  have e2 : (sgnZ na X + sgnZ nb (Y * 2 ^ (j - i))).natAbs ≤ X + Y * 2 ^ (j - i) := by unfold sgnZ; split <;> split <;> omega
  rw [e1]
  generalize 2 ^ (b - 8) = P at hX2 hY2
  omega
 rw [hn, d1, d2]
 refine ⟨Nat.lt_of_le_of_lt (oddN_le _) hZ, ?_⟩
 have ht := twos_lt hZ
 unfold dyE
 split <;> omega
theorem two_bd (na nb : Bool) {X Y i j c : Nat} {e0 B : Int} (hX : X < 2 ^ c) (hY : Y < 2 ^ c) (hB : 0 ≤ B) (hi : -B ≤ e0 + i ∧ e0 + i ≤ B) (hj : -B ≤ e0 + j ∧ e0 + j ≤ B) {b : Nat} (hb : (b : Int) = 2 * B + c + 8) {V : Int} (hV : V = sgnZ na (X * 2 ^ i) + sgnZ nb (Y * 2 ^ j)) :
  oddN V.natAbs < 2 ^ b ∧ -B ≤ dyE V.natAbs e0 ∧ dyE V.natAbs e0 ≤ B + b := by
 rcases Nat.le_total i j with h | h
 ·exact two_le na nb hX hY hB hi.1 hj.2 h hb hV
 ·exact two_le nb na hY hX hB hj.1 hi.2 h hb (by rw [hV, Int.add_comm])
/-- where a rounded number's exponent lies -/
theorem round_e (n : Bool) {s : Nat} {e : Int} (up : Bool) (h : s ≠ 0) (h1 : -1048576 ≤ (s.log2 : Int) + e - 63) (h2 : (s.log2 : Int) + e - 63 < 1048576) :
  (s.log2 : Int) + e - 63 ≤ (roundAt n s e up).e ∧ (roundAt n s e up).e ≤ (s.log2 : Int) + e - 63 + 1 := by
 have bd : ∀ (m q : Int) (a : Bool), -1048576 ≤ q → q ≤ 1048576 → (boundN n m q a).e = q := by
  intro m q a g1 g2
  unfold boundN
  rw [if_neg (by omega), if_neg (by omega)]
 have gr : ∀ (m q : Int) (c a : Bool), -1048576 ≤ q → q < 1048576 → q ≤ (growN n m q c a).e ∧ (growN n m q c a).e ≤ q + 1 := by
  intro m q c a g1 g2
  unfold growN
  split
  ·split
   ·rw [bd _ _ _ (by omega) (by omega)]; omega
   ·rw [bd _ _ _ (by omega) (by omega)]; omega
  ·rw [bd _ _ _ (by omega) (by omega)]; omega
 unfold roundAt
 rw [if_neg h]
 split
 ·have := gr ((s * 2 ^ (63 - s.log2) : Nat) : Int) (e - ((63 - s.log2 : Nat) : Int)) false (up != n) (by omega) (by omega)
  omega
 ·have := gr ((s / 2 ^ (s.log2 - 63) : Nat) : Int) (e + ((s.log2 - 63 : Nat) : Int)) (decide (s % 2 ^ (s.log2 - 63) ≠ 0)) (up != n) (by omega) (by omega)
  omega
/-- the exponent of a number that may be and is finite is few -/
def FewE (x : Num) (B : Int) : Prop := -B ≤ (fairN x).e ∧ (fairN x).e ≤ B
theorem FewE.more {x : Num} {B C : Int} (h : FewE x B) (hc : B ≤ C) : FewE x C := by unfold FewE at h ⊢; omega
theorem FewE.fair {x : Num} {B : Int} (h : FewE x B) : FewE (fairN x) B := by unfold FewE at h ⊢; rwa [fairN_fair]
theorem val_form {f : Num} (hm : mayN f = true) (hk : f.k ≠ 2) (hw : Wf f) {B : Int} (he : -B ≤ f.e ∧ f.e ≤ B) (hB : 0 ≤ B) (hB2 : B ≤ 100000) :
  ∃ i : Nat, dyE f.m.toNat f.e = -BB + i ∧ valN f = sgnZ (f.n && decide (0 < f.m.toNat)) (oddN f.m.toNat * 2 ^ i) ∧ oddN f.m.toNat < 2 ^ 64 ∧ -B ≤ -BB + (i : Int) ∧ -BB + (i : Int) ≤ B + 64 := by
 have hlt : f.m.toNat < 2 ^ 64 := by unfold Wf at hw; rw [show (2 : Nat) ^ 64 = 18446744073709551616 from by decide]; omega
 have hd := dyE_bd hlt he.1 he.2
 refine ⟨(dyE f.m.toNat f.e + BB).toNat, ?_, ?_, Nat.lt_of_le_of_lt (oddN_le _) hlt, ?_, ?_⟩
 ·unfold BB at *; omega
 ·exact (ex_val hm hk hw _ (by unfold BB at *; omega)).symm
 ·unfold BB at *; omega
 ·unfold BB at *; omega
theorem addN_few {x y : Num} (wx : Wf x) (wy : Wf y) {B : Int} (hx : FewE x B) (hy : FewE y B) (hB : 0 ≤ B) (hB2 : B ≤ 10000) (up : Bool) : FewE (addN x y up) (5 * B + 900) := by
 have hm := addN_may wx wy up
 unfold FewE at hx hy ⊢
 rw [fairN_of hm.1]
 have mx := mayN_fair x
 have my := mayN_fair y
 have fx := fairN_wf wx
 have fy := fairN_wf wy
 unfold addN addF at *
 generalize fairN x = f at *
 generalize fairN y = g at *
 by_cases h1 : f.k = 2
 ·have e0 : f.e = 0 := by rcases may_cases mx with ⟨h, _⟩ | ⟨h, _⟩ | ⟨_, _, h⟩ <;> omega
  by_cases h2 : g.k = 2 ∧ f.n ≠ g.n
  ·rw [if_pos ⟨h1, h2.1, h2.2⟩]; unfold infN; simp only; omega
  ·rw [if_neg (fun g => h2 g.2), if_pos h1]; omega
 ·rw [if_neg (fun g => h1 g.1), if_neg h1]
  by_cases h2 : g.k = 2
  ·rw [if_pos h2]; omega
  ·rw [if_neg h2]
   obtain ⟨i, i1, i2, i3, i4, i5⟩ := val_form mx h1 fx hx hB (by omega)
   obtain ⟨j, j1, j2, j3, j4, j5⟩ := val_form my h2 fy hy hB (by omega)
   have hb := two_bd (f.n && decide (0 < f.m.toNat)) (g.n && decide (0 < g.m.toNat)) (i := i) (j := j) (e0 := -BB) (B := B + 64) (b := (2 * (B + 64) + 64 + 8).toNat) (V := valN f + valN g) i3 j3 (by omega) ⟨by omega, by omega⟩ ⟨by omega, by omega⟩ (by omega) (by rw [i2, j2])
   rw [← round_dy]
   obtain ⟨b1, b2, b3⟩ := hb
   rcases Nat.eq_zero_or_pos (valN f + valN g).natAbs with h0 | h0
   ·rw [h0, oddN_zero]; unfold roundAt; rw [if_pos rfl]; unfold zero; simp only; omega
   ·have o0 := oddN_pos.2 h0
    have hl : (oddN (valN f + valN g).natAbs).log2 < (2 * (B + 64) + 64 + 8).toNat := (Nat.log2_lt (by omega)).2 b1
    have hr := round_e (decide (valN f + valN g < 0)) (e := dyE (valN f + valN g).natAbs (-BB)) up (s := oddN (valN f + valN g).natAbs) (by omega) (by omega) (by omega)
    omega
end Go.Proofs.YtagojbgmgkkdpaaGreat.Wk

/- Walks: Few of a number, Few of an interval. -/
namespace Go.Proofs.YtagojbgmgkkdpaaGreat.Wk
open Go.RowKit Go.Proofs.Pl Go.Proofs.YtagojbgmgkkdpaaGreatW.PrintLast
set_option linter.unusedSimpArgs false
set_option linter.unusedVariables false

def fewN (x : Num) : Bool := !(x.k == 1) || (decide (-1500 ≤ x.e) && decide (x.e ≤ 1500))
theorem few_of {x : Num} (h : fewN x = true) : FewE x 1500 := by
 unfold FewE fairN
 split
 ·next hm =>
  rcases may_cases hm with ⟨_, _, _, h1⟩ | ⟨h1, _⟩ | ⟨_, _, h1⟩
  ·omega
  ·unfold fewN at h
   rw [h1] at h
   simpa using h
  ·omega
 ·unfold zero; simp only; omega
set_option maxHeartbeats 4000000 in
theorem few6_calls (a0 : Int) (a1 : Bool) (a2 a3 : Int) (w : World) :
  Calls Tryz.prog 41 #[.agg #[.int .i64 a0, .bool a1, .int .u64 a2, .int .i64 a3]] w fun e w' => e = .returned (.bool (fewN ⟨a0, a1, a2, a3⟩)) ∧ Below w.heap.size w w' := by
 unfold fewN
 dsimp only
 by_cases h0 : a0 = 1
 ·subst h0
  by_cases h1 : -1500 ≤ a3
  ·by_cases h2 : a3 ≤ 1500
   all_goals go_enter Tryz.func41, Tryz.ntmps41
   all_goals go_wp2
   all_goals go_ret
   all_goals exact ⟨by simp_all, bl_alloc (Below.refl _ _) _⟩
  ·go_enter Tryz.func41, Tryz.ntmps41
   go_wp2
   go_ret
   exact ⟨by simp; omega, bl_alloc (Below.refl _ _) _⟩
 ·have h0' : (a0 == 1) = false := by simpa using h0
  go_enter Tryz.func41, Tryz.ntmps41
  go_wp2
  go_ret
  exact ⟨by simp [h0], bl_alloc (Below.refl _ _) _⟩
set_option maxHeartbeats 4000000 in
theorem few8_calls (a0 : Bool) (a1 : Int) (a2 : Bool) (a3 a4 a5 : Int) (a6 : Bool) (a7 a8 : Int) (w : World) :
  Calls Tryz.prog 18 #[.agg #[.bool a0, .int .i64 a1, .bool a2, .int .u64 a3, .int .i64 a4, .int .i64 a5, .bool a6, .int .u64 a7, .int .i64 a8]] w fun e w' => e = .returned (.bool (fewN ⟨a1, a2, a3, a4⟩ && fewN ⟨a5, a6, a7, a8⟩)) ∧ Below w.heap.size w w' := by
 have H1 := Lib.hid (fun W => few6_calls a1 a2 a3 a4 W)
 have H2 := Lib.hid (fun W => few6_calls a5 a6 a7 a8 W)
 generalize fewN ⟨a1, a2, a3, a4⟩ = p at H1 ⊢
 generalize fewN ⟨a5, a6, a7, a8⟩ = q at H2 ⊢
 have BX := Blk.new w 39 #[.bool a0, .int .i64 a1, .bool a2, .int .u64 a3, .int .i64 a4, .int .i64 a5, .bool a6, .int .u64 a7, .int .i64 a8]
 have HBd := bl_alloc (Below.refl w.heap.size w) (.cells #[.bool a0, .int .i64 a1, .bool a2, .int .u64 a3, .int .i64 a4, .int .i64 a5, .bool a6, .int .u64 a7, .int .i64 a8] 39)
 cases p
 all_goals go_enter Tryz.func18, Tryz.ntmps18
 all_goals go_wp2_with (first
  | (go_at_call 41; (with_reducible refine (H1.out _).mono ?_); rintro e' w1 ⟨rfl, hb⟩; replace BX := BX.call hb; replace HBd := bl_trans HBd hb; clear hb; obtain ⟨⟨p0, p1, p2, p3, p4, p5, p6, p7, p8⟩, _⟩ := BX.c9)
  | (go_at_call 41; (with_reducible refine (H2.out _).mono ?_); rintro e' w2 ⟨rfl, hb⟩; replace HBd := bl_trans HBd hb; clear hb))
 all_goals go_ret
 all_goals exact ⟨by simp, HBd⟩
end Go.Proofs.YtagojbgmgkkdpaaGreat.Wk
