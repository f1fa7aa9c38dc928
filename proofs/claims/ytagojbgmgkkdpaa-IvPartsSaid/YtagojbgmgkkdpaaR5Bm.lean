/- Walk: the reference's Round. -/
import Derived.Test.YtagojbgmgkkdpaaR5Am
namespace Go.Proofs.Ytagojbgmgkkdpaa.Wk
open Go.RowKit Go.Proofs.Pl Go.Proofs.YtagojbgmgkkdpaaW.PrintLast
set_option linter.unusedSimpArgs false
set_option linter.unusedVariables false

theorem blen_two (T : Nat) (h1 : T < 18446744073709551616) : (T = 18446744073709551615 → blen (T + 1) = 65) ∧ (T ≠ 18446744073709551615 → blen (T + 1) ≤ 64) := by
  refine ⟨fun h => by subst h; decide +kernel, fun h => ?_⟩
  exact blen_le (k := 64) (by rw [show (2 : Nat) ^ 64 = 18446744073709551616 from by decide]; omega)
theorem digs_two {M n : Nat} (hM : M < 18446744073709551616) (h : (digs M).length = n) : n ≤ 2 := by
  rw [← h]
  exact digs_len (k := 2) (by rw [show (4294967296 : Nat) ^ 2 = 18446744073709551616 from by decide]; exact hM)
/-- what Round's four ways lead to, for an odd number -/
theorem round_ways (neg : Bool) (O : Nat) (e : Int) (up : Bool) (h : O % 2 = 1) (r : Num) (hr : roundAt neg O e up = r) :
    (blen O ≤ 64 ∧ O * 2 ^ (64 - blen O) < 18446744073709551616 ∧ boundN neg ((O * 2 ^ (64 - blen O) : Nat) : Int) (e + (blen O : Int) - 64) (up != neg) = r) ∨
    (64 < blen O ∧ O / 2 ^ (blen O - 64) < 18446744073709551616 ∧ (up != neg) = false ∧ boundN neg ((O / 2 ^ (blen O - 64) : Nat) : Int) (e + (blen O : Int) - 64) false = r) ∨
    (64 < blen O ∧ O / 2 ^ (blen O - 64) = 18446744073709551615 ∧ (up != neg) = true ∧ boundN neg 9223372036854775808 (e + (blen O : Int) - 64 + 1) true = r) ∨
    (64 < blen O ∧ O / 2 ^ (blen O - 64) + 1 < 18446744073709551616 ∧ blen (O / 2 ^ (blen O - 64) + 1) ≤ 64 ∧ (up != neg) = true ∧ boundN neg ((O / 2 ^ (blen O - 64) + 1 : Nat) : Int) (e + (blen O : Int) - 64) true = r) := by
  obtain ⟨q1, q2⟩ := round_odd neg O e up h
  rw [hr] at q1 q2
  by_cases hl : blen O ≤ 64
  · obtain ⟨a, b⟩ := q1 hl
    exact .inl ⟨hl, b, a.symm⟩
  · obtain ⟨a, b, d⟩ := q2 (by omega)
    by_cases hu : (up != neg) = true
    · rw [if_pos hu] at d
      by_cases hm : O / 2 ^ (blen O - 64) = 18446744073709551615
      · rw [if_pos hm] at d
        exact .inr (.inr (.inl ⟨by omega, hm, hu, d.symm⟩))
      · rw [if_neg hm] at d
        exact .inr (.inr (.inr ⟨by omega, by omega, (blen_two _ a).2 hm, hu, d.symm⟩))
    · rw [if_neg hu] at d
      exact .inr (.inl ⟨by omega, a, by simpa using hu, d.symm⟩)
set_option maxRecDepth 100000 in
set_option maxHeartbeats 4000000 in
theorem r5round_calls (neg : Bool) (A : Option Addr) (n c : Nat) (xs : List Int) (e : Int) (up : Bool) (w : World) (hs : SlU w w.heap.size A n xs) (hn : n ≤ 1000) (hc : n ≤ c) (he : -100000 ≤ e) (he2 : e ≤ 100000) :
    Calls Try.prog 109 #[.agg #[.bool neg, .slice A n c, .int .i64 e], .bool up] w fun en w' => en = .returned (.agg #[.int .i64 (roundAt neg (valL xs) e up).k, .bool (roundAt neg (valL xs) e up).n, .int .u64 (roundAt neg (valL xs) e up).m, .int .i64 (roundAt neg (valL xs) e up).e]) ∧ Below w.heap.size w w' := by
  have hlt : valL xs < 2 ^ (32 * n) := by rw [← pow32, ← hs.1]; exact valL_lt hs.2.1
  have HMa := (fun W h => r3make_calls neg A n c xs e W h (by omega) hc (by omega) (by omega))
  replace hs := Lib.hid hs
  generalize valL xs = N at HMa hlt ⊢
  have hpe := dyE_bd hlt he he2
  have hrd := round_dy neg N e up
  have hO2 : ∀ n', (digs (oddN N)).length = n' → n' ≤ 1000 := fun n' h => Nat.le_trans (len_one (k := n) (odd_lt' hlt (Nat.le_refl _)) (Nat.le_refl _) h) hn
  replace hO2 := Lib.hid hO2
  have hBl : blen (oddN N) ≤ 32 * n := blen_le (odd_lt' hlt (Nat.le_refl _))
  have HZ : N = 0 → roundAt neg N e up = zero := fun h => by rw [h]; rfl
  generalize roundAt neg N e up = r at hrd HZ ⊢
  have BR : Blk _ (w.heap.size + 1) 24 #[.int .i64 0, .bool false, .int .u64 0, .int .i64 0] := Blk.new1 w (.cells #[.bool neg, .slice A n c, .int .i64 e] 115) _ _
  have HBd := (bl_alloc (bl_alloc (Below.refl w.heap.size w) (.cells #[.bool neg, .slice A n c, .int .i64 e] 115)) (.cells #[.int .i64 0, .bool false, .int .u64 0, .int .i64 0] 24))
  unfold RetDy at HMa
  rcases Nat.eq_zero_or_pos N with hN | hN
  · rw [HZ hN]
    subst hN
    rw [oddN_zero, digs_zero, dyE_zero, show decide ((0 : Nat) < 0) = false from rfl, Bool.and_false] at HMa
    replace HMa := Lib.hid HMa
    clear hlt hpe hrd hBl HZ
    show Calls Try.prog 109 #[.agg #[.bool neg, .slice A n c, .int .i64 e], .bool up] w fun en w' => en = .returned (.agg #[.int .i64 0, .bool false, .int .u64 0, .int .i64 0]) ∧ Below w.heap.size w w'
    go_enter Try.func109, Try.ntmps109
    go_wp2_with (go_at_call 131; (with_reducible refine (HMa.out _ (hs.out.on HBd)).mono ?_); rintro e1 w1 ⟨A1, n1, c1, rfl, hc1, S1, hb1⟩; obtain rfl : n1 = 0 := S1.1.symm; replace BR := BR.call hb1; replace HBd := bl_trans HBd hb1; have hlr := BR.lt; obtain ⟨z0, z1, z2, z3⟩ : w1.cell? ⟨w.heap.size + 1, 0, none⟩ = some (.int .i64 0) ∧ w1.cell? ⟨w.heap.size + 1, 1, none⟩ = some (.bool false) ∧ w1.cell? ⟨w.heap.size + 1, 2, none⟩ = some (.int .u64 0) ∧ w1.cell? ⟨w.heap.size + 1, 3, none⟩ = some (.int .i64 0) := ⟨BR.cell 0, BR.cell 1, BR.cell 2, BR.cell 3⟩; obtain ⟨f0, f1, f2, f3⟩ : w1.frozen? ⟨w.heap.size + 1, 0, none⟩ = false ∧ w1.frozen? ⟨w.heap.size + 1, 1, none⟩ = false ∧ w1.frozen? ⟨w.heap.size + 1, 2, none⟩ = false ∧ w1.frozen? ⟨w.heap.size + 1, 3, none⟩ = false := ⟨BR.frozen 0, BR.frozen 1, BR.frozen 2, BR.frozen 3⟩)
    have B2 := ((((BR.set_ 0 (.int .i64 0)).set_ 1 (.bool false)).set_ 2 (.int .u64 0)).set_ 3 (.int .i64 0)).alloc (.cells #[.bool false, .slice A1 0 c1, .int .i64 0] 115)
    have HB2 := bl_alloc ((((HBd.setCell (p := ⟨w.heap.size + 1, 0, none⟩) (by show w.heap.size ≤ w.heap.size + 1; omega) (.int .i64 0)).setCell (p := ⟨w.heap.size + 1, 1, none⟩) (by show w.heap.size ≤ w.heap.size + 1; omega) (.bool false)).setCell (p := ⟨w.heap.size + 1, 2, none⟩) (by show w.heap.size ≤ w.heap.size + 1; omega) (.int .u64 0)).setCell (p := ⟨w.heap.size + 1, 3, none⟩) (by show w.heap.size ≤ w.heap.size + 1; omega) (.int .i64 0)) (.cells #[.bool false, .slice A1 0 c1, .int .i64 0] 115)
    exact bodyPost_ret (results_cell_row rfl _ _ (w.heap.size + 1) 24 _ (0, 0) _ rfl B2 Try.underlying24 rfl (by kernel_rfl)) rfl ⟨rfl, HB2⟩
  · rw [decide_eq_true hN, Bool.and_true] at HMa
    have hodd := oddN_odd hN
    have HL : ∀ A1 n1 c1 (W : World), SlU W W.heap.size A1 n1 (digs (oddN N)) → n1 ≤ 1000 → n1 ≤ c1 → Calls Try.prog 134 #[.slice A1 n1 c1] W fun e w' => e = .returned (.int .i64 (blen (oddN N))) ∧ Below W.heap.size W w' := fun A1 n1 c1 W h hn hc => by
      have := r1len_calls A1 n1 c1 _ W h (by omega) hc
      rwa [valL_digs] at this
    have hways := round_ways neg (oddN N) (dyE N e) up hodd r hrd
    obtain ⟨r0, r1, r2, r3⟩ := r
    show Calls Try.prog 109 #[.agg #[.bool neg, .slice A n c, .int .i64 e], .bool up] w fun en w' => en = .returned (.agg #[.int .i64 r0, .bool r1, .int .u64 r2, .int .i64 r3]) ∧ Below w.heap.size w w'
    generalize hpE : dyE N e = pe at HMa hways hpe
    have HW : ∀ (M : Nat) A3 n3 c3 (W : World), SlU W W.heap.size A3 n3 (digs M) → n3 ≤ 2 → n3 ≤ c3 → Calls Try.prog 136 #[.slice A3 n3 c3] W fun e w' => e = .returned (.int .u64 M) ∧ w' = W := fun M A3 n3 c3 W h hn hc => by
      have := r5word_calls A3 n3 c3 _ W h hn hc
      rwa [valL_digs] at this
    rcases hways with ⟨w1, w2, w3⟩ | ⟨w1, w2, w3, w4⟩ | ⟨w1, w2, w3, w4⟩ | ⟨w1, w2, w3, w4, w5⟩
    · have HSh := (fun A1 n1 c1 W h hn hc => r1shl_calls A1 n1 c1 (64 - blen (oddN N)) (digs (oddN N)) W h hn hc (by omega))
      rw [valL_digs] at HSh
      have HF := fun W => r5fin_calls neg ((oddN N * 2 ^ (64 - blen (oddN N)) : Nat) : Int) (pe + (blen (oddN N) : Int) - 64) (up != neg) W
      rw [w3] at HF
      have hM2 : ∀ n', (digs (oddN N * 2 ^ (64 - blen (oddN N)))).length = n' → n' ≤ 2 := fun n' h => digs_two w2 h
      generalize oddN N * 2 ^ (64 - blen (oddN N)) = M at HSh HF hM2
      replace HW := HW M
      have hc1 : IntKind.i64.wrap (64 - (blen (oddN N) : Int)) = ((64 - blen (oddN N) : Nat) : Int) := by rw [wrap_z (by omega) (by omega)]; omega
      have hc2 : IntKind.i64.wrap (IntKind.i64.wrap (pe + (blen (oddN N) : Int)) - 64) = pe + (blen (oddN N) : Int) - 64 := by rw [wrap_z (n := pe + _) (by omega) (by omega), wrap_z (by omega) (by omega)]
      rw [← hc1] at HSh
      rw [← hc2] at HF
      obtain ⟨L, hL⟩ : ∃ L : Int, L = (blen (oddN N) : Int) := ⟨_, rfl⟩
      have hL1 : 0 ≤ L := by omega
      have hL2 : L ≤ 64 := by omega
      rw [← hL] at HSh HF HL
      clear hc1 hc2 hL w1 w2 w3 hodd hBl hlt hrd HZ hpE
      replace HMa := Lib.hid HMa
      replace HL := Lib.hid HL
      replace HSh := Lib.hid HSh
      replace HF := Lib.hid HF
      replace HW := Lib.hid HW
      replace hM2 := Lib.hid hM2
      obtain ⟨hpe1, hpe2⟩ := hpe
      go_enter Try.func109, Try.ntmps109
      go_wp2_with (first
        | (go_at_call 131; (with_reducible refine (HMa.out _ (hs.out.on HBd)).mono ?_); rintro e1 w1 ⟨A1, n1, c1, rfl, hc1, S1, hb1⟩; replace BR := BR.call hb1; replace HBd := bl_trans HBd hb1; have hn0 := (digs_none (oddN N) S1.1).2 (oddN_pos.2 hN); have hn1 := hO2.out n1 S1.1; have hne : ((n1 : Int) == 0) = false := (by simp; omega); replace S1 := Lib.hid (S1.on (bl_alloc (Below.refl w1.heap.size w1) (.cells #[.bool neg, .slice A1 n1 c1, .int .i64 pe] 115))); have BX : Blk (w1.alloc (.cells #[.bool neg, .slice A1 n1 c1, .int .i64 pe] 115)) w1.heap.size 115 #[.bool neg, .slice A1 n1 c1, .int .i64 pe] := Blk.new w1 _ _; replace BR := BR.alloc (.cells #[.bool neg, .slice A1 n1 c1, .int .i64 pe] 115); replace HBd := bl_alloc HBd (.cells #[.bool neg, .slice A1 n1 c1, .int .i64 pe] 115); clear hb1)
        | (go_at_call 134; (with_reducible refine (HL.out A1 n1 c1 _ S1.out hn1 hc1).mono ?_); rintro e1 w2 ⟨rfl, hb2⟩; replace BX := BX.call hb2; replace BR := BR.call hb2; replace HBd := bl_trans HBd hb2; have hlx := BX.lt; replace S1 := Lib.hid (S1.out.on hb2); obtain ⟨xc0, xc1, xc2⟩ : w2.cell? ⟨w1.heap.size, 0, none⟩ = some (.bool neg) ∧ w2.cell? ⟨w1.heap.size, 1, none⟩ = some (.slice A1 n1 c1) ∧ w2.cell? ⟨w1.heap.size, 2, none⟩ = some (.int .i64 pe) := ⟨BX.cell 0, BX.cell 1, BX.cell 2⟩; clear hb2 hne)
      )
      generalize w1.heap.size = g at BX xc0 xc1 xc2 ⊢
      replace BX := BX.drew
      replace BR := BR.drew
      replace HBd := bl_drew HBd
      replace S1 := Lib.hid (S1.out.on (bl_drew (Below.refl _ _)))
      refine start_ (n := 18) (S := fun w' => w'.cell? ⟨g, 0, none⟩ = some (.bool neg) ∧ w'.cell? ⟨g, 1, none⟩ = some (.slice A1 n1 c1) ∧ w'.cell? ⟨g, 2, none⟩ = some (.int .i64 pe)) (ds := [17]) (bq 18 0) (by kernel_rfl) rfl rfl ⟨BX.cell 0, BX.cell 1, BX.cell 2⟩ (fun hHeld => ?_)
      refine pure_ (i := 0) (N := some 32) (v := ?_) (a' := ?_) (bq 18 1) rfl rfl (by kernel_rfl) (fun _ _ _ h => h) (Or.inl ⟨by rfl, ?_⟩) ?_ ?_
      rotate_left
      · intro w'
        go_simp
        with_reducible rfl
      rotate_left
      · simp only [Act.put, pA, pB, pC]
        rfl
      refine pure_ (i := 1) (N := some 33) (v := ?_) (a' := ?_) (bq 18 3) rfl rfl (by kernel_rfl) (fun _ _ _ h => h) (Or.inl ⟨by rfl, ?_⟩) ?_ ?_
      rotate_left
      · intro w'
        go_simp
        with_reducible rfl
      rotate_left
      · simp only [Act.put, pA, pB, pC]
        rfl
      refine take_ (i := 2) (N := some 34) (v := ?_) (a' := ?_) (bq 18 7) rfl rfl (by kernel_rfl) (fun _ _ _ h => h) (Or.inl ⟨by rfl, ?_⟩) hHeld ?_ ?_
      rotate_left
      · rintro w' ⟨s0_, s1_, s2_⟩
        go_simp
        with_reducible rfl
      rotate_left
      · simp only [Act.put, pA, pB, pC]
        rfl
      refine pure_ (i := 3) (N := some 35) (v := ?_) (a' := ?_) (bq 18 15) rfl rfl (by kernel_rfl) (fun _ _ _ h => h) (Or.inl ⟨by rfl, ?_⟩) ?_ ?_
      rotate_left
      · intro w'
        go_simp
        with_reducible rfl
      rotate_left
      · simp only [Act.put, pA, pB, pC]
        rfl
      refine pure_ (i := 4) (N := some 36) (v := ?_) (a' := ?_) (bq 18 31) rfl rfl (by kernel_rfl) (fun _ _ _ h => h) (Or.inl ⟨by rfl, ?_⟩) ?_ ?_
      rotate_left
      · intro w'
        go_simp
        with_reducible rfl
      rotate_left
      · simp only [Act.put, pA, pB, pC]
        rfl
      refine take_ (i := 5) (N := some 37) (v := ?_) (a' := ?_) (bq 18 63) rfl rfl (by kernel_rfl) (fun _ _ _ h => h) (Or.inl ⟨by rfl, ?_⟩) hHeld ?_ ?_
      rotate_left
      · rintro w' ⟨s0_, s1_, s2_⟩
        go_simp
        with_reducible rfl
      rotate_left
      · simp only [Act.put, pA, pB, pC]
        rfl
      refine pure_ (i := 6) (N := some 38) (v := ?_) (a' := ?_) (bq 18 127) rfl rfl (by kernel_rfl) (fun _ _ _ h => h) (Or.inl ⟨by rfl, ?_⟩) ?_ ?_
      rotate_left
      · intro w'
        go_simp
        with_reducible rfl
      rotate_left
      · simp only [Act.put, pA, pB, pC]
        rfl
      refine pure_ (i := 7) (N := some 39) (v := ?_) (a' := ?_) (bq 18 255) rfl rfl (by kernel_rfl) (fun _ _ _ h => h) (Or.inl ⟨by rfl, ?_⟩) ?_ ?_
      rotate_left
      · intro w'
        go_simp
        with_reducible rfl
      rotate_left
      · simp only [Act.put, pA, pB, pC]
        rfl
      refine pure_ (i := 10) (N := some 42) (v := ?_) (a' := ?_) (bq 18 1279) rfl rfl (by kernel_rfl) (fun _ _ _ h => h) (Or.inl ⟨by rfl, ?_⟩) ?_ ?_
      rotate_left
      · intro w'
        go_simp
        with_reducible rfl
      rotate_left
      · simp only [Act.put, pA, pB, pC]
        rfl
      refine take_ (i := 11) (N := some 43) (v := ?_) (a' := ?_) (bq 18 3327) rfl rfl (by kernel_rfl) (fun _ _ _ h => h) (Or.inl ⟨by rfl, ?_⟩) hHeld ?_ ?_
      rotate_left
      · rintro w' ⟨s0_, s1_, s2_⟩
        go_simp
        with_reducible rfl
      rotate_left
      · simp only [Act.put, pA, pB, pC]
        rfl
      refine pure_ (i := 12) (N := some 44) (v := ?_) (a' := ?_) (bq 18 7423) rfl rfl (by kernel_rfl) (fun _ _ _ h => h) (Or.inl ⟨by rfl, ?_⟩) ?_ ?_
      rotate_left
      · intro w'
        go_simp
        with_reducible rfl
      rotate_left
      · simp only [Act.put, pA, pB, pC]
        rfl
      refine pure_ (i := 13) (N := some 45) (v := ?_) (a' := ?_) (bq 18 15615) rfl rfl (by kernel_rfl) (fun _ _ _ h => h) (Or.inl ⟨by rfl, ?_⟩) ?_ ?_
      rotate_left
      · intro w'
        go_simp
        with_reducible rfl
      rotate_left
      · simp only [Act.put, pA, pB, pC]
        rfl
      refine pure_ (i := 14) (N := some 46) (v := ?_) (a' := ?_) (bq 18 31999) rfl rfl (by kernel_rfl) (fun _ _ _ h => h) (Or.inl ⟨by rfl, ?_⟩) ?_ ?_
      rotate_left
      · intro w'
        go_simp
        with_reducible rfl
      rotate_left
      · simp only [Act.put, pA, pB, pC]
        rfl
      refine pure_ (i := 15) (N := some 47) (v := ?_) (a' := ?_) (bq 18 64767) rfl rfl (by kernel_rfl) (fun _ _ _ h => h) (Or.inl ⟨by rfl, ?_⟩) ?_ ?_
      rotate_left
      · intro w'
        go_simp
        with_reducible rfl
      rotate_left
      · simp only [Act.put, pA, pB, pC]
        rfl
      refine one_ (i := 8) (N := some 40) (bq 18 65023) rfl rfl (by kernel_rfl) (by decide) (fun K hK => ?_)
      refine goes_ Try.func137 (by kernel_rfl) rfl #[.slice A1 n1 c1, .int .i64 (IntKind.i64.wrap (64 - L))] (by first | rfl | go_simp) rfl rfl (by simp only [List.map_toArray, List.map_cons, List.map_nil] <;> rfl) ?_
      with_reducible refine (HSh.out A1 n1 c1 _ S1.out (by omega) hc1).mono ?_
      rintro e1 w3 ⟨A3, n3, c3, rfl, hc3, S3, hb⟩
      refine ⟨_, rfl, ?_⟩
      replace S3 := Lib.hid S3
      replace BX := BX.call hb
      replace BR := BR.call hb
      replace HBd := bl_trans HBd hb
      have hn3 := hM2.out n3 S3.out.1
      refine hK.out _ _ ⟨BX.cell 0, BX.cell 1, BX.cell 2⟩ (fun hHeld => ?_)
      clear hK K hb
      refine norm_ (a' := ?_) ?_ ?_
      rotate_left
      · show Act.put _ (some 40) _ = _
        simp only [Act.put, pA, pB, pC]
        rfl
      refine one_ (i := 9) (N := some 41) (bq 18 65535) rfl rfl (by kernel_rfl) (by decide) (fun K hK => ?_)
      refine goes_ Try.func136 (by kernel_rfl) rfl #[.slice A3 n3 c3] (by first | rfl | go_simp) rfl rfl (by simp only [List.map_toArray, List.map_cons, List.map_nil] <;> rfl) ?_
      with_reducible refine (HW.out A3 n3 c3 _ S3.out hn3 hc3).mono ?_
      rintro e1 w4 ⟨rfl, hw⟩
      refine ⟨_, rfl, ?_⟩
      obtain rfl := hw.symm
      have hb := Below.refl w3.heap.size w3
      refine hK.out _ _ ⟨BX.cell 0, BX.cell 1, BX.cell 2⟩ (fun hHeld => ?_)
      clear hK K hb
      refine norm_ (a' := ?_) ?_ ?_
      rotate_left
      · show Act.put _ (some 41) _ = _
        simp only [Act.put, pA, pB, pC]
        rfl
      refine one_ (i := 16) (N := some 48) (bq 18 131071) rfl rfl (by kernel_rfl) (by decide) (fun K hK => ?_)
      refine goes_ Try.func135 (by kernel_rfl) rfl #[.bool neg, .int .u64 M, .int .i64 (IntKind.i64.wrap (IntKind.i64.wrap (pe + L) - 64)), .bool (up != neg)] (by first | rfl | go_simp) rfl rfl (by simp only [List.map_toArray, List.map_cons, List.map_nil] <;> rfl) ?_
      with_reducible refine (HF.out _).mono ?_
      rintro e1 w5 ⟨rfl, hb⟩
      refine ⟨_, rfl, ?_⟩
      replace BR := BR.call hb
      replace BX := BX.call hb
      replace HBd := bl_trans HBd hb
      obtain ⟨z0, z1, z2, z3⟩ : w5.cell? ⟨w.heap.size + 1, 0, none⟩ = some (.int .i64 0) ∧ w5.cell? ⟨w.heap.size + 1, 1, none⟩ = some (.bool false) ∧ w5.cell? ⟨w.heap.size + 1, 2, none⟩ = some (.int .u64 0) ∧ w5.cell? ⟨w.heap.size + 1, 3, none⟩ = some (.int .i64 0) := ⟨BR.cell 0, BR.cell 1, BR.cell 2, BR.cell 3⟩
      obtain ⟨f0, f1, f2, f3⟩ : w5.frozen? ⟨w.heap.size + 1, 0, none⟩ = false ∧ w5.frozen? ⟨w.heap.size + 1, 1, none⟩ = false ∧ w5.frozen? ⟨w.heap.size + 1, 2, none⟩ = false ∧ w5.frozen? ⟨w.heap.size + 1, 3, none⟩ = false := ⟨BR.frozen 0, BR.frozen 1, BR.frozen 2, BR.frozen 3⟩
      refine hK.out _ _ ⟨BX.cell 0, BX.cell 1, BX.cell 2⟩ (fun hHeld => ?_)
      clear hK K hb
      refine norm_ (a' := ?_) ?_ ?_
      rotate_left
      · show Act.put _ (some 48) _ = _
        simp only [Act.put, pA, pB, pC]
        rfl
      refine last_ (i := 17) (N := none) (bq 18 262143) rfl rfl (by kernel_rfl) (by decide) (fun K hK => ?_)
      refine skip_ (w1 := ?_) (by rfl) rfl ?_ ?_
      rotate_left
      · go_simp
        rfl
      refine hK.out _ _ ?_
      clear hK K
      refine done_ (by kernel_rfl) ?_
      go_wp2_with fail
      have B2 : Blk _ (w.heap.size + 1) 24 #[.int .i64 r0, .bool r1, .int .u64 r2, .int .i64 r3] := (((BR.set_ 0 (.int .i64 r0)).set_ 1 (.bool r1)).set_ 2 (.int .u64 r2)).set_ 3 (.int .i64 r3)
      have HB2 := ((((HBd.setCell (p := ⟨w.heap.size + 1, 0, none⟩) (by show w.heap.size ≤ w.heap.size + 1; omega) (.int .i64 r0)).setCell (p := ⟨w.heap.size + 1, 1, none⟩) (by show w.heap.size ≤ w.heap.size + 1; omega) (.bool r1)).setCell (p := ⟨w.heap.size + 1, 2, none⟩) (by show w.heap.size ≤ w.heap.size + 1; omega) (.int .u64 r2)).setCell (p := ⟨w.heap.size + 1, 3, none⟩) (by show w.heap.size ≤ w.heap.size + 1; omega) (.int .i64 r3))
      exact bodyPost_ret (results_cell_row rfl _ _ (w.heap.size + 1) 24 _ (0, 0) _ rfl B2 Try.underlying24 rfl (by kernel_rfl)) rfl ⟨rfl, HB2⟩
    · skip
      have HSr := (fun A1 n1 c1 W h hn hc => r1shr_calls A1 n1 c1 (blen (oddN N) - 64) (digs (oddN N)) W h hn hc (by omega))
      rw [valL_digs] at HSr
      have hc1 : (((blen (oddN N) - 64 : Nat) : Int)) = (blen (oddN N) : Int) - 64 := by omega
      rw [hc1] at HSr
      generalize hT : oddN N / 2 ^ (blen (oddN N) - 64) = T at HSr w2 w4 w1
      have hT2 : ∀ n', (digs T).length = n' → n' ≤ 2 := fun n' h => digs_two (by omega) h
      obtain ⟨L, hL⟩ : ∃ L : Int, L = (blen (oddN N) : Int) := ⟨_, rfl⟩
      have hL1 : ¬ L ≤ 64 := by omega
      have hL2 : L ≤ 32000 := by omega
      have hL3 : 64 < L := by omega
      have HF := fun W => r5fin_calls neg (T : Int) (pe + (blen (oddN N) : Int) - 64) (up != neg) W
      rw [w3, w4] at HF
      rw [← hL] at HSr HF HL
      replace HW := HW T
      clear hc1 hL hT w1 w2 w4 hodd hBl hlt hrd HZ hpE
      replace HMa := Lib.hid HMa
      replace HL := Lib.hid HL
      replace HSr := Lib.hid HSr
      replace HF := Lib.hid HF
      replace HW := Lib.hid HW
      replace hT2 := Lib.hid hT2
      obtain ⟨hpe1, hpe2⟩ := hpe
      generalize hM : (T : Int) = M at HF HW
      obtain rfl : neg = up := by cases neg <;> cases up <;> simp_all
      go_enter Try.func109, Try.ntmps109
      go_wp2_with (first
        | (go_at_call 131; (with_reducible refine (HMa.out _ (hs.out.on HBd)).mono ?_); rintro e1 w1 ⟨A1, n1, c1, rfl, hc1, S1, hb1⟩; replace BR := BR.call hb1; replace HBd := bl_trans HBd hb1; have hn0 := (digs_none (oddN N) S1.1).2 (oddN_pos.2 hN); have hn1 := hO2.out n1 S1.1; have hne : ((n1 : Int) == 0) = false := (by simp; omega); replace S1 := Lib.hid (S1.on (bl_alloc (Below.refl w1.heap.size w1) (.cells #[.bool neg, .slice A1 n1 c1, .int .i64 pe] 115))); have BX : Blk (w1.alloc (.cells #[.bool neg, .slice A1 n1 c1, .int .i64 pe] 115)) w1.heap.size 115 #[.bool neg, .slice A1 n1 c1, .int .i64 pe] := Blk.new w1 _ _; replace BR := BR.alloc (.cells #[.bool neg, .slice A1 n1 c1, .int .i64 pe] 115); replace HBd := bl_alloc HBd (.cells #[.bool neg, .slice A1 n1 c1, .int .i64 pe] 115); clear hb1)
        | (go_at_call 134; (with_reducible refine (HL.out A1 n1 c1 _ S1.out hn1 hc1).mono ?_); rintro e1 w2 ⟨rfl, hb2⟩; replace BX := BX.call hb2; replace BR := BR.call hb2; replace HBd := bl_trans HBd hb2; have hlx := BX.lt; replace S1 := Lib.hid (S1.out.on hb2); obtain ⟨xc0, xc1, xc2⟩ : w2.cell? ⟨w1.heap.size, 0, none⟩ = some (.bool neg) ∧ w2.cell? ⟨w1.heap.size, 1, none⟩ = some (.slice A1 n1 c1) ∧ w2.cell? ⟨w1.heap.size, 2, none⟩ = some (.int .i64 pe) := ⟨BX.cell 0, BX.cell 1, BX.cell 2⟩; clear hb2 hne)
        | (go_at_call 138; (with_reducible refine (HSr.out A1 n1 c1 _ S1.out (by omega) hc1).mono ?_); rintro e1 w3 ⟨A3, n3, c3, rfl, hc3, S3, hb3⟩; replace BX := BX.call hb3; replace BR := BR.call hb3; replace HBd := bl_trans HBd hb3; replace S3 := Lib.hid S3; have hn3 := hT2.out n3 S3.out.1; clear hlx; have hlx := BX.lt; obtain ⟨vc0, vc1, vc2⟩ : w3.cell? ⟨w1.heap.size, 0, none⟩ = some (.bool neg) ∧ w3.cell? ⟨w1.heap.size, 1, none⟩ = some (.slice A1 n1 c1) ∧ w3.cell? ⟨w1.heap.size, 2, none⟩ = some (.int .i64 pe) := ⟨BX.cell 0, BX.cell 1, BX.cell 2⟩; clear xc0 xc1 xc2 hb3)
        )
      generalize w1.heap.size = g at BX vc0 vc1 vc2 hlx ⊢
      clear hlx
      generalize pe + L - 64 = E at HF ⊢
      replace BX := BX.drew
      replace BR := BR.drew
      replace HBd := bl_drew HBd
      replace S3 := Lib.hid (S3.out.on (bl_drew (Below.refl _ _)))
      refine start_ (n := 9) (S := fun w' => w'.cell? ⟨g, 0, none⟩ = some (.bool neg) ∧ w'.cell? ⟨g, 1, none⟩ = some (.slice A1 n1 c1)) (ds := [8]) (bq 9 0) (by kernel_rfl) rfl rfl ⟨BX.cell 0, BX.cell 1⟩ (fun hHeld => ?_)
      refine pure_ (i := 0) (N := some 71) (v := ?_) (a' := ?_) (bq 9 1) rfl rfl (by kernel_rfl) (fun _ _ _ h => h) (Or.inl ⟨by rfl, ?_⟩) ?_ ?_
      rotate_left
      · intro w'
        go_simp
        with_reducible rfl
      rotate_left
      · simp only [Act.put, pA, pB, pC]
        rfl
      refine pure_ (i := 1) (N := some 72) (v := ?_) (a' := ?_) (bq 9 3) rfl rfl (by kernel_rfl) (fun _ _ _ h => h) (Or.inl ⟨by rfl, ?_⟩) ?_ ?_
      rotate_left
      · intro w'
        go_simp
        with_reducible rfl
      rotate_left
      · simp only [Act.put, pA, pB, pC]
        rfl
      refine take_ (i := 2) (N := some 73) (v := ?_) (a' := ?_) (bq 9 7) rfl rfl (by kernel_rfl) (fun _ _ _ h => h) (Or.inl ⟨by rfl, ?_⟩) hHeld ?_ ?_
      rotate_left
      · rintro w' ⟨s0_, s1_⟩
        go_simp
        with_reducible rfl
      rotate_left
      · simp only [Act.put, pA, pB, pC]
        rfl
      refine pure_ (i := 3) (N := some 74) (v := ?_) (a' := ?_) (bq 9 15) rfl rfl (by kernel_rfl) (fun _ _ _ h => h) (Or.inl ⟨by rfl, ?_⟩) ?_ ?_
      rotate_left
      · intro w'
        go_simp
        with_reducible rfl
      rotate_left
      · simp only [Act.put, pA, pB, pC]
        rfl
      refine pure_ (i := 5) (N := some 76) (v := ?_) (a' := ?_) (bq 9 47) rfl rfl (by kernel_rfl) (fun _ _ _ h => h) (Or.inl ⟨by rfl, ?_⟩) ?_ ?_
      rotate_left
      · intro w'
        go_simp
        with_reducible rfl
      rotate_left
      · simp only [Act.put, pA, pB, pC]
        rfl
      refine pure_ (i := 6) (N := some 77) (v := ?_) (a' := ?_) (bq 9 111) rfl rfl (by kernel_rfl) (fun _ _ _ h => h) (Or.inl ⟨by rfl, ?_⟩) ?_ ?_
      rotate_left
      · intro w'
        go_simp
        with_reducible rfl
      rotate_left
      · simp only [Act.put, pA, pB, pC]
        rfl
      refine one_ (i := 4) (N := some 75) (bq 9 127) rfl rfl (by kernel_rfl) (by decide) (fun K hK => ?_)
      refine goes_ Try.func136 (by kernel_rfl) rfl #[.slice A3 n3 c3] (by first | rfl | go_simp) rfl rfl (by simp only [List.map_toArray, List.map_cons, List.map_nil] <;> rfl) ?_
      with_reducible refine (HW.out A3 n3 c3 _ S3.out hn3 hc3).mono ?_
      rintro e1 w4 ⟨rfl, hw⟩
      refine ⟨_, rfl, ?_⟩
      obtain rfl := hw.symm
      have hb := Below.refl w3.drew.heap.size w3.drew
      refine hK.out _ _ ⟨BX.cell 0, BX.cell 1⟩ (fun hHeld => ?_)
      clear hK K hb
      refine norm_ (a' := ?_) ?_ ?_
      rotate_left
      · show Act.put _ (some 75) _ = _
        simp only [Act.put, pA, pB, pC]
        rfl
      refine one_ (i := 7) (N := some 78) (bq 9 255) rfl rfl (by kernel_rfl) (by decide) (fun K hK => ?_)
      refine goes_ Try.func135 (by kernel_rfl) rfl #[.bool neg, .int .u64 M, .int .i64 E, .bool false] (by first | rfl | go_simp) rfl rfl (by simp only [List.map_toArray, List.map_cons, List.map_nil] <;> rfl) ?_
      with_reducible refine (HF.out _).mono ?_
      rintro e1 w5 ⟨rfl, hb⟩
      refine ⟨_, rfl, ?_⟩
      replace BR := BR.call hb
      replace BX := BX.call hb
      replace HBd := bl_trans HBd hb
      obtain ⟨z0, z1, z2, z3⟩ : w5.cell? ⟨w.heap.size + 1, 0, none⟩ = some (.int .i64 0) ∧ w5.cell? ⟨w.heap.size + 1, 1, none⟩ = some (.bool false) ∧ w5.cell? ⟨w.heap.size + 1, 2, none⟩ = some (.int .u64 0) ∧ w5.cell? ⟨w.heap.size + 1, 3, none⟩ = some (.int .i64 0) := ⟨BR.cell 0, BR.cell 1, BR.cell 2, BR.cell 3⟩
      obtain ⟨f0, f1, f2, f3⟩ : w5.frozen? ⟨w.heap.size + 1, 0, none⟩ = false ∧ w5.frozen? ⟨w.heap.size + 1, 1, none⟩ = false ∧ w5.frozen? ⟨w.heap.size + 1, 2, none⟩ = false ∧ w5.frozen? ⟨w.heap.size + 1, 3, none⟩ = false := ⟨BR.frozen 0, BR.frozen 1, BR.frozen 2, BR.frozen 3⟩
      refine hK.out _ _ ⟨BX.cell 0, BX.cell 1⟩ (fun hHeld => ?_)
      clear hK K hb
      refine norm_ (a' := ?_) ?_ ?_
      rotate_left
      · show Act.put _ (some 78) _ = _
        simp only [Act.put, pA, pB, pC]
        rfl
      refine last_ (i := 8) (N := none) (bq 9 511) rfl rfl (by kernel_rfl) (by decide) (fun K hK => ?_)
      refine skip_ (w1 := ?_) (by rfl) rfl ?_ ?_
      rotate_left
      · go_simp
        rfl
      refine hK.out _ _ ?_
      clear hK K
      refine done_ (by kernel_rfl) ?_
      go_wp2_with fail
      have B2 : Blk _ (w.heap.size + 1) 24 #[.int .i64 r0, .bool r1, .int .u64 r2, .int .i64 r3] := (((BR.set_ 0 (.int .i64 r0)).set_ 1 (.bool r1)).set_ 2 (.int .u64 r2)).set_ 3 (.int .i64 r3)
      have HB2 := ((((HBd.setCell (p := ⟨w.heap.size + 1, 0, none⟩) (by show w.heap.size ≤ w.heap.size + 1; omega) (.int .i64 r0)).setCell (p := ⟨w.heap.size + 1, 1, none⟩) (by show w.heap.size ≤ w.heap.size + 1; omega) (.bool r1)).setCell (p := ⟨w.heap.size + 1, 2, none⟩) (by show w.heap.size ≤ w.heap.size + 1; omega) (.int .u64 r2)).setCell (p := ⟨w.heap.size + 1, 3, none⟩) (by show w.heap.size ≤ w.heap.size + 1; omega) (.int .i64 r3))
      exact bodyPost_ret (results_cell_row rfl _ _ (w.heap.size + 1) 24 _ (0, 0) _ rfl B2 Try.underlying24 rfl (by kernel_rfl)) rfl ⟨rfl, HB2⟩
    · skip
      have HSr := (fun A1 n1 c1 W h hn hc => r1shr_calls A1 n1 c1 (blen (oddN N) - 64) (digs (oddN N)) W h hn hc (by omega))
      rw [valL_digs] at HSr
      have hc1 : (((blen (oddN N) - 64 : Nat) : Int)) = (blen (oddN N) : Int) - 64 := by omega
      rw [hc1] at HSr
      generalize hT : oddN N / 2 ^ (blen (oddN N) - 64) = T at HSr w2
      have hT2 : ∀ n', (digs T).length = n' → n' ≤ 2 := fun n' h => digs_two (by omega) h
      obtain ⟨L, hL⟩ : ∃ L : Int, L = (blen (oddN N) : Int) := ⟨_, rfl⟩
      have hL1 : ¬ L ≤ 64 := by omega
      have hL2 : L ≤ 32000 := by omega
      have hL3 : 64 < L := by omega
      subst w2
      have HF := fun W => r5fin_calls neg 9223372036854775808 (pe + (blen (oddN N) : Int) - 64 + 1) (up != neg) W
      rw [w3, w4] at HF
      have HAd := (fun A n c B m d W g h hn hm => r1add_calls A n c (digs 18446744073709551615) B m d [1] W g h hn hm)
      rw [valL_digs, show valL [1] = 1 from rfl] at HAd
      have hA2 : ∀ n', (digs (18446744073709551615 + 1)).length = n' → n' ≤ 3 := fun n' h => len_one (a := 65) (k := 3) (by decide +kernel) (by decide) h
      have HL2 : ∀ A1 n1 c1 (W : World), SlU W W.heap.size A1 n1 (digs (18446744073709551615 + 1)) → n1 ≤ 3 → n1 ≤ c1 → Calls Try.prog 134 #[.slice A1 n1 c1] W fun e w' => e = .returned (.int .i64 65) ∧ Below W.heap.size W w' := fun A1 n1 c1 W h hn hc => by
        have := r1len_calls A1 n1 c1 _ W h (by omega) hc
        rwa [valL_digs, show ((blen (18446744073709551615 + 1) : Nat) : Int) = 65 from by decide +kernel] at this
      have HS2 := (fun A1 n1 c1 W h hn hc => r1shr_calls A1 n1 c1 1 (digs (18446744073709551615 + 1)) W h hn hc (by decide))
      rw [valL_digs, show (18446744073709551615 + 1) / 2 ^ 1 = 9223372036854775808 from by decide +kernel, show (((1 : Nat) : Int)) = 1 from rfl] at HS2
      have hD2 : ∀ n', (digs 9223372036854775808).length = n' → n' ≤ 2 := fun n' h => digs_two (by decide) h
      generalize 18446744073709551615 + 1 = T1 at HAd hA2 HL2 HS2
      rw [← hL] at HSr HF HL
      replace HW := HW 9223372036854775808
      clear hc1 hL hT w1 w4 hodd hBl hlt hrd HZ hpE
      replace HMa := Lib.hid HMa
      replace HL := Lib.hid HL
      replace HSr := Lib.hid HSr
      replace HF := Lib.hid HF
      replace HW := Lib.hid HW
      obtain ⟨hpe1, hpe2⟩ := hpe
      generalize hT18 : (18446744073709551615 : Nat) = T at HSr HAd hT2
      clear hT18
      rw [show ((9223372036854775808 : Nat) : Int) = 9223372036854775808 from rfl] at HW
      generalize hM : (9223372036854775808 : Int) = M at HF HW
      clear hM
      obtain rfl : up = !neg := by cases neg <;> cases up <;> simp_all
      replace hT2 := Lib.hid hT2
      replace HAd := Lib.hid HAd
      replace hA2 := Lib.hid hA2
      replace HL2 := Lib.hid HL2
      replace HS2 := Lib.hid HS2
      replace hD2 := Lib.hid hD2
      go_enter Try.func109, Try.ntmps109
      go_wp2_with (first
        | (go_at_call 131; (with_reducible refine (HMa.out _ (hs.out.on HBd)).mono ?_); rintro e1 w1 ⟨A1, n1, c1, rfl, hc1, S1, hb1⟩; replace BR := BR.call hb1; replace HBd := bl_trans HBd hb1; have hn0 := (digs_none (oddN N) S1.1).2 (oddN_pos.2 hN); have hn1 := hO2.out n1 S1.1; have hne : ((n1 : Int) == 0) = false := (by simp; omega); replace S1 := Lib.hid (S1.on (bl_alloc (Below.refl w1.heap.size w1) (.cells #[.bool neg, .slice A1 n1 c1, .int .i64 pe] 115))); have BX : Blk (w1.alloc (.cells #[.bool neg, .slice A1 n1 c1, .int .i64 pe] 115)) w1.heap.size 115 #[.bool neg, .slice A1 n1 c1, .int .i64 pe] := Blk.new w1 _ _; replace BR := BR.alloc (.cells #[.bool neg, .slice A1 n1 c1, .int .i64 pe] 115); replace HBd := bl_alloc HBd (.cells #[.bool neg, .slice A1 n1 c1, .int .i64 pe] 115); clear hb1)
        | (go_at_call 134; (with_reducible refine (HL.out A1 n1 c1 _ S1.out hn1 hc1).mono ?_); rintro e1 w2 ⟨rfl, hb2⟩; replace BX := BX.call hb2; replace BR := BR.call hb2; replace HBd := bl_trans HBd hb2; have hlx := BX.lt; replace S1 := Lib.hid (S1.out.on hb2); obtain ⟨xc0, xc1, xc2⟩ : w2.cell? ⟨w1.heap.size, 0, none⟩ = some (.bool neg) ∧ w2.cell? ⟨w1.heap.size, 1, none⟩ = some (.slice A1 n1 c1) ∧ w2.cell? ⟨w1.heap.size, 2, none⟩ = some (.int .i64 pe) := ⟨BX.cell 0, BX.cell 1, BX.cell 2⟩; clear hb2 hne)
        | (go_at_call 138; (with_reducible refine (HSr.out A1 n1 c1 _ S1.out (by omega) hc1).mono ?_); rintro e1 w3 ⟨A3, n3, c3, rfl, hc3, S3, hb3⟩; replace BX := BX.call hb3; replace BR := BR.call hb3; replace HBd := bl_trans HBd hb3; replace S3 := Lib.hid S3; have hn3 := hT2.out n3 S3.out.1; clear hlx; have hlx := BX.lt; obtain ⟨vc0, vc1, vc2⟩ : w3.cell? ⟨w1.heap.size, 0, none⟩ = some (.bool neg) ∧ w3.cell? ⟨w1.heap.size, 1, none⟩ = some (.slice A1 n1 c1) ∧ w3.cell? ⟨w1.heap.size, 2, none⟩ = some (.int .i64 pe) := ⟨BX.cell 0, BX.cell 1, BX.cell 2⟩; clear xc0 xc1 xc2 hb3)
        | (go_at_call 139; (with_reducible refine (HAd.out A3 n3 c3 (some ⟨w3.heap.size, 0, none⟩) 1 1 (w3.alloc (.cells #[.int .u32 1] 145)) (S3.out.on (bl_alloc (Below.refl _ _) _)) (SlU.lit1 (Blk.new w3 _ _) (by decide) (by decide) (by simp)) (by omega) (by omega)).mono ?_); rintro e1 w4 ⟨A4, n4, c4, rfl, hc4, S4, hbq⟩; replace BX := (BX.alloc (.cells #[.int .u32 1] 145)).call hbq; replace BR := (BR.alloc (.cells #[.int .u32 1] 145)).call hbq; replace HBd := bl_trans (bl_alloc HBd (.cells #[.int .u32 1] 145)) hbq; replace S4 := Lib.hid S4; have hn4 := hA2.out n4 S4.out.1; clear hlx; have hlx := BX.lt; obtain ⟨vc0, vc1, vc2⟩ : w4.cell? ⟨w1.heap.size, 0, none⟩ = some (.bool neg) ∧ w4.cell? ⟨w1.heap.size, 1, none⟩ = some (.slice A1 n1 c1) ∧ w4.cell? ⟨w1.heap.size, 2, none⟩ = some (.int .i64 pe) := ⟨BX.cell 0, BX.cell 1, BX.cell 2⟩; clear hbq)
        | (go_at_call 134; (with_reducible refine (HL2.out A4 n4 c4 _ S4.out hn4 hc4).mono ?_); rintro e1 w5 ⟨rfl, hbq⟩; replace BX := BX.call hbq; replace BR := BR.call hbq; replace HBd := bl_trans HBd hbq; replace S4 := Lib.hid (S4.out.on hbq); clear hlx; have hlx := BX.lt; clear hbq)
        | (go_at_call 138; (with_reducible refine (HS2.out A4 n4 c4 _ S4.out (by omega) hc4).mono ?_); rintro e1 w6 ⟨A6, n6, c6, rfl, hc6, S6, hbq⟩; replace BX := BX.call hbq; replace BR := BR.call hbq; replace HBd := bl_trans HBd hbq; replace S6 := Lib.hid S6; have hn6 := hD2.out n6 S6.out.1; clear hlx; have hlx := BX.lt; obtain ⟨vc0, vc1, vc2⟩ : w6.cell? ⟨w1.heap.size, 0, none⟩ = some (.bool neg) ∧ w6.cell? ⟨w1.heap.size, 1, none⟩ = some (.slice A1 n1 c1) ∧ w6.cell? ⟨w1.heap.size, 2, none⟩ = some (.int .i64 pe) := ⟨BX.cell 0, BX.cell 1, BX.cell 2⟩; clear hbq)
        )
      generalize w1.heap.size = g at BX vc0 vc1 vc2 hlx ⊢
      clear hlx
      generalize pe + L - 64 + 1 = E at HF ⊢
      replace BX := BX.drew
      replace BR := BR.drew
      replace HBd := bl_drew HBd
      replace S6 := Lib.hid (S6.out.on (bl_drew (Below.refl _ _)))
      refine start_ (n := 9) (S := fun w' => w'.cell? ⟨g, 0, none⟩ = some (.bool neg) ∧ w'.cell? ⟨g, 1, none⟩ = some (.slice A1 n1 c1)) (ds := [8]) (bq 9 0) (by kernel_rfl) rfl rfl ⟨BX.cell 0, BX.cell 1⟩ (fun hHeld => ?_)
      refine pure_ (i := 0) (N := some 71) (v := ?_) (a' := ?_) (bq 9 1) rfl rfl (by kernel_rfl) (fun _ _ _ h => h) (Or.inl ⟨by rfl, ?_⟩) ?_ ?_
      rotate_left
      · intro w'
        go_simp
        with_reducible rfl
      rotate_left
      · simp only [Act.put, pA, pB, pC]
        rfl
      refine pure_ (i := 1) (N := some 72) (v := ?_) (a' := ?_) (bq 9 3) rfl rfl (by kernel_rfl) (fun _ _ _ h => h) (Or.inl ⟨by rfl, ?_⟩) ?_ ?_
      rotate_left
      · intro w'
        go_simp
        with_reducible rfl
      rotate_left
      · simp only [Act.put, pA, pB, pC]
        rfl
      refine take_ (i := 2) (N := some 73) (v := ?_) (a' := ?_) (bq 9 7) rfl rfl (by kernel_rfl) (fun _ _ _ h => h) (Or.inl ⟨by rfl, ?_⟩) hHeld ?_ ?_
      rotate_left
      · rintro w' ⟨s0_, s1_⟩
        go_simp
        with_reducible rfl
      rotate_left
      · simp only [Act.put, pA, pB, pC]
        rfl
      refine pure_ (i := 3) (N := some 74) (v := ?_) (a' := ?_) (bq 9 15) rfl rfl (by kernel_rfl) (fun _ _ _ h => h) (Or.inl ⟨by rfl, ?_⟩) ?_ ?_
      rotate_left
      · intro w'
        go_simp
        with_reducible rfl
      rotate_left
      · simp only [Act.put, pA, pB, pC]
        rfl
      refine pure_ (i := 5) (N := some 76) (v := ?_) (a' := ?_) (bq 9 47) rfl rfl (by kernel_rfl) (fun _ _ _ h => h) (Or.inl ⟨by rfl, ?_⟩) ?_ ?_
      rotate_left
      · intro w'
        go_simp
        with_reducible rfl
      rotate_left
      · simp only [Act.put, pA, pB, pC]
        rfl
      refine pure_ (i := 6) (N := some 77) (v := ?_) (a' := ?_) (bq 9 111) rfl rfl (by kernel_rfl) (fun _ _ _ h => h) (Or.inl ⟨by rfl, ?_⟩) ?_ ?_
      rotate_left
      · intro w'
        go_simp
        with_reducible rfl
      rotate_left
      · simp only [Act.put, pA, pB, pC]
        rfl
      refine one_ (i := 4) (N := some 75) (bq 9 127) rfl rfl (by kernel_rfl) (by decide) (fun K hK => ?_)
      refine goes_ Try.func136 (by kernel_rfl) rfl #[.slice A6 n6 c6] (by first | rfl | go_simp) rfl rfl (by simp only [List.map_toArray, List.map_cons, List.map_nil] <;> rfl) ?_
      with_reducible refine (HW.out A6 n6 c6 _ S6.out hn6 hc6).mono ?_
      rintro e1 w8 ⟨rfl, hw⟩
      refine ⟨_, rfl, ?_⟩
      obtain rfl := hw.symm
      have hb := Below.refl w6.drew.heap.size w6.drew
      refine hK.out _ _ ⟨BX.cell 0, BX.cell 1⟩ (fun hHeld => ?_)
      clear hK K hb
      refine norm_ (a' := ?_) ?_ ?_
      rotate_left
      · show Act.put _ (some 75) _ = _
        simp only [Act.put, pA, pB, pC]
        rfl
      refine one_ (i := 7) (N := some 78) (bq 9 255) rfl rfl (by kernel_rfl) (by decide) (fun K hK => ?_)
      refine goes_ Try.func135 (by kernel_rfl) rfl #[.bool neg, .int .u64 M, .int .i64 E, .bool true] (by first | rfl | go_simp) rfl rfl (by simp only [List.map_toArray, List.map_cons, List.map_nil] <;> rfl) ?_
      with_reducible refine (HF.out _).mono ?_
      rintro e1 w5 ⟨rfl, hb⟩
      refine ⟨_, rfl, ?_⟩
      replace BR := BR.call hb
      replace BX := BX.call hb
      replace HBd := bl_trans HBd hb
      obtain ⟨z0, z1, z2, z3⟩ : w5.cell? ⟨w.heap.size + 1, 0, none⟩ = some (.int .i64 0) ∧ w5.cell? ⟨w.heap.size + 1, 1, none⟩ = some (.bool false) ∧ w5.cell? ⟨w.heap.size + 1, 2, none⟩ = some (.int .u64 0) ∧ w5.cell? ⟨w.heap.size + 1, 3, none⟩ = some (.int .i64 0) := ⟨BR.cell 0, BR.cell 1, BR.cell 2, BR.cell 3⟩
      obtain ⟨f0, f1, f2, f3⟩ : w5.frozen? ⟨w.heap.size + 1, 0, none⟩ = false ∧ w5.frozen? ⟨w.heap.size + 1, 1, none⟩ = false ∧ w5.frozen? ⟨w.heap.size + 1, 2, none⟩ = false ∧ w5.frozen? ⟨w.heap.size + 1, 3, none⟩ = false := ⟨BR.frozen 0, BR.frozen 1, BR.frozen 2, BR.frozen 3⟩
      refine hK.out _ _ ⟨BX.cell 0, BX.cell 1⟩ (fun hHeld => ?_)
      clear hK K hb
      refine norm_ (a' := ?_) ?_ ?_
      rotate_left
      · show Act.put _ (some 78) _ = _
        simp only [Act.put, pA, pB, pC]
        rfl
      refine last_ (i := 8) (N := none) (bq 9 511) rfl rfl (by kernel_rfl) (by decide) (fun K hK => ?_)
      refine skip_ (w1 := ?_) (by rfl) rfl ?_ ?_
      rotate_left
      · go_simp
        rfl
      refine hK.out _ _ ?_
      clear hK K
      refine done_ (by kernel_rfl) ?_
      go_wp2_with fail
      have B2 : Blk _ (w.heap.size + 1) 24 #[.int .i64 r0, .bool r1, .int .u64 r2, .int .i64 r3] := (((BR.set_ 0 (.int .i64 r0)).set_ 1 (.bool r1)).set_ 2 (.int .u64 r2)).set_ 3 (.int .i64 r3)
      have HB2 := ((((HBd.setCell (p := ⟨w.heap.size + 1, 0, none⟩) (by show w.heap.size ≤ w.heap.size + 1; omega) (.int .i64 r0)).setCell (p := ⟨w.heap.size + 1, 1, none⟩) (by show w.heap.size ≤ w.heap.size + 1; omega) (.bool r1)).setCell (p := ⟨w.heap.size + 1, 2, none⟩) (by show w.heap.size ≤ w.heap.size + 1; omega) (.int .u64 r2)).setCell (p := ⟨w.heap.size + 1, 3, none⟩) (by show w.heap.size ≤ w.heap.size + 1; omega) (.int .i64 r3))
      exact bodyPost_ret (results_cell_row rfl _ _ (w.heap.size + 1) 24 _ (0, 0) _ rfl B2 Try.underlying24 rfl (by kernel_rfl)) rfl ⟨rfl, HB2⟩
    · skip
      have HSr := (fun A1 n1 c1 W h hn hc => r1shr_calls A1 n1 c1 (blen (oddN N) - 64) (digs (oddN N)) W h hn hc (by omega))
      rw [valL_digs] at HSr
      have hc1 : (((blen (oddN N) - 64 : Nat) : Int)) = (blen (oddN N) : Int) - 64 := by omega
      rw [hc1] at HSr
      generalize hT : oddN N / 2 ^ (blen (oddN N) - 64) = T at HSr w2 w3 w5
      have hT2 : ∀ n', (digs T).length = n' → n' ≤ 2 := fun n' h => digs_two (by omega) h
      obtain ⟨L, hL⟩ : ∃ L : Int, L = (blen (oddN N) : Int) := ⟨_, rfl⟩
      have hL1 : ¬ L ≤ 64 := by omega
      have hL2 : L ≤ 32000 := by omega
      have hL3 : 64 < L := by omega
      have HF := fun W => r5fin_calls neg ((T + 1 : Nat) : Int) (pe + (blen (oddN N) : Int) - 64) (up != neg) W
      rw [w4, w5] at HF
      have HAd := (fun A n c B m d W g h hn hm => r1add_calls A n c (digs T) B m d [1] W g h hn hm)
      rw [valL_digs, show valL [1] = 1 from rfl] at HAd
      have hA2 : ∀ n', (digs (T + 1)).length = n' → n' ≤ 2 := fun n' h => digs_two w2 h
      have hbl : (blen (T + 1) : Int) ≤ 64 := by omega
      have HL2 : ∀ A1 n1 c1 (W : World), SlU W W.heap.size A1 n1 (digs (T + 1)) → n1 ≤ 2 → n1 ≤ c1 → Calls Try.prog 134 #[.slice A1 n1 c1] W fun e w' => e = .returned (.int .i64 (blen (T + 1))) ∧ Below W.heap.size W w' := fun A1 n1 c1 W h hn hc => by
        have := r1len_calls A1 n1 c1 _ W h (by omega) hc
        rwa [valL_digs] at this
      obtain ⟨L2, hL2'⟩ : ∃ L2 : Int, L2 = (blen (T + 1) : Int) := ⟨_, rfl⟩
      have hlL2 : L2 ≤ 64 := by omega
      rw [← hL2'] at HL2
      clear hL2' hbl
      replace HW := HW (T + 1)
      generalize T + 1 = T1 at HAd hA2 HL2 HF HW
      rw [← hL] at HSr HF HL
      clear hc1 hL hT w1 w2 w3 w5 hodd hBl hlt hrd HZ hpE
      replace HMa := Lib.hid HMa
      replace HL := Lib.hid HL
      replace HSr := Lib.hid HSr
      replace HF := Lib.hid HF
      replace HW := Lib.hid HW
      obtain ⟨hpe1, hpe2⟩ := hpe
      generalize hM : (T1 : Int) = M at HF HW
      clear hM
      obtain rfl : up = !neg := by cases neg <;> cases up <;> simp_all
      replace hT2 := Lib.hid hT2
      replace HAd := Lib.hid HAd
      replace hA2 := Lib.hid hA2
      replace HL2 := Lib.hid HL2
      go_enter Try.func109, Try.ntmps109
      go_wp2_with (first
        | (go_at_call 131; (with_reducible refine (HMa.out _ (hs.out.on HBd)).mono ?_); rintro e1 w1 ⟨A1, n1, c1, rfl, hc1, S1, hb1⟩; replace BR := BR.call hb1; replace HBd := bl_trans HBd hb1; have hn0 := (digs_none (oddN N) S1.1).2 (oddN_pos.2 hN); have hn1 := hO2.out n1 S1.1; have hne : ((n1 : Int) == 0) = false := (by simp; omega); replace S1 := Lib.hid (S1.on (bl_alloc (Below.refl w1.heap.size w1) (.cells #[.bool neg, .slice A1 n1 c1, .int .i64 pe] 115))); have BX : Blk (w1.alloc (.cells #[.bool neg, .slice A1 n1 c1, .int .i64 pe] 115)) w1.heap.size 115 #[.bool neg, .slice A1 n1 c1, .int .i64 pe] := Blk.new w1 _ _; replace BR := BR.alloc (.cells #[.bool neg, .slice A1 n1 c1, .int .i64 pe] 115); replace HBd := bl_alloc HBd (.cells #[.bool neg, .slice A1 n1 c1, .int .i64 pe] 115); clear hb1)
        | (go_at_call 134; (with_reducible refine (HL.out A1 n1 c1 _ S1.out hn1 hc1).mono ?_); rintro e1 w2 ⟨rfl, hb2⟩; replace BX := BX.call hb2; replace BR := BR.call hb2; replace HBd := bl_trans HBd hb2; have hlx := BX.lt; replace S1 := Lib.hid (S1.out.on hb2); obtain ⟨xc0, xc1, xc2⟩ : w2.cell? ⟨w1.heap.size, 0, none⟩ = some (.bool neg) ∧ w2.cell? ⟨w1.heap.size, 1, none⟩ = some (.slice A1 n1 c1) ∧ w2.cell? ⟨w1.heap.size, 2, none⟩ = some (.int .i64 pe) := ⟨BX.cell 0, BX.cell 1, BX.cell 2⟩; clear hb2 hne)
        | (go_at_call 138; (with_reducible refine (HSr.out A1 n1 c1 _ S1.out (by omega) hc1).mono ?_); rintro e1 w3 ⟨A3, n3, c3, rfl, hc3, S3, hb3⟩; replace BX := BX.call hb3; replace BR := BR.call hb3; replace HBd := bl_trans HBd hb3; replace S3 := Lib.hid S3; have hn3 := hT2.out n3 S3.out.1; clear hlx; have hlx := BX.lt; obtain ⟨vc0, vc1, vc2⟩ : w3.cell? ⟨w1.heap.size, 0, none⟩ = some (.bool neg) ∧ w3.cell? ⟨w1.heap.size, 1, none⟩ = some (.slice A1 n1 c1) ∧ w3.cell? ⟨w1.heap.size, 2, none⟩ = some (.int .i64 pe) := ⟨BX.cell 0, BX.cell 1, BX.cell 2⟩; clear xc0 xc1 xc2 hb3)
        | (go_at_call 139; (with_reducible refine (HAd.out A3 n3 c3 (some ⟨w3.heap.size, 0, none⟩) 1 1 (w3.alloc (.cells #[.int .u32 1] 145)) (S3.out.on (bl_alloc (Below.refl _ _) _)) (SlU.lit1 (Blk.new w3 _ _) (by decide) (by decide) (by simp)) (by omega) (by omega)).mono ?_); rintro e1 w4 ⟨A4, n4, c4, rfl, hc4, S4, hbq⟩; replace BX := (BX.alloc (.cells #[.int .u32 1] 145)).call hbq; replace BR := (BR.alloc (.cells #[.int .u32 1] 145)).call hbq; replace HBd := bl_trans (bl_alloc HBd (.cells #[.int .u32 1] 145)) hbq; replace S4 := Lib.hid S4; have hn4 := hA2.out n4 S4.out.1; clear hlx; have hlx := BX.lt; obtain ⟨vc0, vc1, vc2⟩ : w4.cell? ⟨w1.heap.size, 0, none⟩ = some (.bool neg) ∧ w4.cell? ⟨w1.heap.size, 1, none⟩ = some (.slice A1 n1 c1) ∧ w4.cell? ⟨w1.heap.size, 2, none⟩ = some (.int .i64 pe) := ⟨BX.cell 0, BX.cell 1, BX.cell 2⟩; clear hbq)
        | (go_at_call 134; (with_reducible refine (HL2.out A4 n4 c4 _ S4.out hn4 hc4).mono ?_); rintro e1 w5 ⟨rfl, hbq⟩; replace BX := BX.call hbq; replace BR := BR.call hbq; replace HBd := bl_trans HBd hbq; replace S4 := Lib.hid (S4.out.on hbq); clear hlx vc0 vc1 vc2; have hlx := BX.lt; obtain ⟨vc0, vc1, vc2⟩ : w5.cell? ⟨w1.heap.size, 0, none⟩ = some (.bool neg) ∧ w5.cell? ⟨w1.heap.size, 1, none⟩ = some (.slice A1 n1 c1) ∧ w5.cell? ⟨w1.heap.size, 2, none⟩ = some (.int .i64 pe) := ⟨BX.cell 0, BX.cell 1, BX.cell 2⟩; clear hbq)
        )
      generalize w1.heap.size = g at BX vc0 vc1 vc2 hlx ⊢
      clear hlx
      generalize pe + L - 64 = E at HF ⊢
      replace BX := BX.drew
      replace BR := BR.drew
      replace HBd := bl_drew HBd
      replace S4 := Lib.hid (S4.out.on (bl_drew (Below.refl _ _)))
      refine start_ (n := 9) (S := fun w' => w'.cell? ⟨g, 0, none⟩ = some (.bool neg) ∧ w'.cell? ⟨g, 1, none⟩ = some (.slice A1 n1 c1)) (ds := [8]) (bq 9 0) (by kernel_rfl) rfl rfl ⟨BX.cell 0, BX.cell 1⟩ (fun hHeld => ?_)
      refine pure_ (i := 0) (N := some 71) (v := ?_) (a' := ?_) (bq 9 1) rfl rfl (by kernel_rfl) (fun _ _ _ h => h) (Or.inl ⟨by rfl, ?_⟩) ?_ ?_
      rotate_left
      · intro w'
        go_simp
        with_reducible rfl
      rotate_left
      · simp only [Act.put, pA, pB, pC]
        rfl
      refine pure_ (i := 1) (N := some 72) (v := ?_) (a' := ?_) (bq 9 3) rfl rfl (by kernel_rfl) (fun _ _ _ h => h) (Or.inl ⟨by rfl, ?_⟩) ?_ ?_
      rotate_left
      · intro w'
        go_simp
        with_reducible rfl
      rotate_left
      · simp only [Act.put, pA, pB, pC]
        rfl
      refine take_ (i := 2) (N := some 73) (v := ?_) (a' := ?_) (bq 9 7) rfl rfl (by kernel_rfl) (fun _ _ _ h => h) (Or.inl ⟨by rfl, ?_⟩) hHeld ?_ ?_
      rotate_left
      · rintro w' ⟨s0_, s1_⟩
        go_simp
        with_reducible rfl
      rotate_left
      · simp only [Act.put, pA, pB, pC]
        rfl
      refine pure_ (i := 3) (N := some 74) (v := ?_) (a' := ?_) (bq 9 15) rfl rfl (by kernel_rfl) (fun _ _ _ h => h) (Or.inl ⟨by rfl, ?_⟩) ?_ ?_
      rotate_left
      · intro w'
        go_simp
        with_reducible rfl
      rotate_left
      · simp only [Act.put, pA, pB, pC]
        rfl
      refine pure_ (i := 5) (N := some 76) (v := ?_) (a' := ?_) (bq 9 47) rfl rfl (by kernel_rfl) (fun _ _ _ h => h) (Or.inl ⟨by rfl, ?_⟩) ?_ ?_
      rotate_left
      · intro w'
        go_simp
        with_reducible rfl
      rotate_left
      · simp only [Act.put, pA, pB, pC]
        rfl
      refine pure_ (i := 6) (N := some 77) (v := ?_) (a' := ?_) (bq 9 111) rfl rfl (by kernel_rfl) (fun _ _ _ h => h) (Or.inl ⟨by rfl, ?_⟩) ?_ ?_
      rotate_left
      · intro w'
        go_simp
        with_reducible rfl
      rotate_left
      · simp only [Act.put, pA, pB, pC]
        rfl
      refine one_ (i := 4) (N := some 75) (bq 9 127) rfl rfl (by kernel_rfl) (by decide) (fun K hK => ?_)
      refine goes_ Try.func136 (by kernel_rfl) rfl #[.slice A4 n4 c4] (by first | rfl | go_simp) rfl rfl (by simp only [List.map_toArray, List.map_cons, List.map_nil] <;> rfl) ?_
      with_reducible refine (HW.out A4 n4 c4 _ S4.out hn4 hc4).mono ?_
      rintro e1 w8 ⟨rfl, hw⟩
      refine ⟨_, rfl, ?_⟩
      obtain rfl := hw.symm
      have hb := Below.refl w5.drew.heap.size w5.drew
      refine hK.out _ _ ⟨BX.cell 0, BX.cell 1⟩ (fun hHeld => ?_)
      clear hK K hb
      refine norm_ (a' := ?_) ?_ ?_
      rotate_left
      · show Act.put _ (some 75) _ = _
        simp only [Act.put, pA, pB, pC]
        rfl
      refine one_ (i := 7) (N := some 78) (bq 9 255) rfl rfl (by kernel_rfl) (by decide) (fun K hK => ?_)
      refine goes_ Try.func135 (by kernel_rfl) rfl #[.bool neg, .int .u64 M, .int .i64 E, .bool true] (by first | rfl | go_simp) rfl rfl (by simp only [List.map_toArray, List.map_cons, List.map_nil] <;> rfl) ?_
      with_reducible refine (HF.out _).mono ?_
      rintro e1 w5 ⟨rfl, hb⟩
      refine ⟨_, rfl, ?_⟩
      replace BR := BR.call hb
      replace BX := BX.call hb
      replace HBd := bl_trans HBd hb
      obtain ⟨z0, z1, z2, z3⟩ : w5.cell? ⟨w.heap.size + 1, 0, none⟩ = some (.int .i64 0) ∧ w5.cell? ⟨w.heap.size + 1, 1, none⟩ = some (.bool false) ∧ w5.cell? ⟨w.heap.size + 1, 2, none⟩ = some (.int .u64 0) ∧ w5.cell? ⟨w.heap.size + 1, 3, none⟩ = some (.int .i64 0) := ⟨BR.cell 0, BR.cell 1, BR.cell 2, BR.cell 3⟩
      obtain ⟨f0, f1, f2, f3⟩ : w5.frozen? ⟨w.heap.size + 1, 0, none⟩ = false ∧ w5.frozen? ⟨w.heap.size + 1, 1, none⟩ = false ∧ w5.frozen? ⟨w.heap.size + 1, 2, none⟩ = false ∧ w5.frozen? ⟨w.heap.size + 1, 3, none⟩ = false := ⟨BR.frozen 0, BR.frozen 1, BR.frozen 2, BR.frozen 3⟩
      refine hK.out _ _ ⟨BX.cell 0, BX.cell 1⟩ (fun hHeld => ?_)
      clear hK K hb
      refine norm_ (a' := ?_) ?_ ?_
      rotate_left
      · show Act.put _ (some 78) _ = _
        simp only [Act.put, pA, pB, pC]
        rfl
      refine last_ (i := 8) (N := none) (bq 9 511) rfl rfl (by kernel_rfl) (by decide) (fun K hK => ?_)
      refine skip_ (w1 := ?_) (by rfl) rfl ?_ ?_
      rotate_left
      · go_simp
        rfl
      refine hK.out _ _ ?_
      clear hK K
      refine done_ (by kernel_rfl) ?_
      go_wp2_with fail
      have B2 : Blk _ (w.heap.size + 1) 24 #[.int .i64 r0, .bool r1, .int .u64 r2, .int .i64 r3] := (((BR.set_ 0 (.int .i64 r0)).set_ 1 (.bool r1)).set_ 2 (.int .u64 r2)).set_ 3 (.int .i64 r3)
      have HB2 := ((((HBd.setCell (p := ⟨w.heap.size + 1, 0, none⟩) (by show w.heap.size ≤ w.heap.size + 1; omega) (.int .i64 r0)).setCell (p := ⟨w.heap.size + 1, 1, none⟩) (by show w.heap.size ≤ w.heap.size + 1; omega) (.bool r1)).setCell (p := ⟨w.heap.size + 1, 2, none⟩) (by show w.heap.size ≤ w.heap.size + 1; omega) (.int .u64 r2)).setCell (p := ⟨w.heap.size + 1, 3, none⟩) (by show w.heap.size ≤ w.heap.size + 1; omega) (.int .i64 r3))
      exact bodyPost_ret (results_cell_row rfl _ _ (w.heap.size + 1) 24 _ (0, 0) _ rfl B2 Try.underlying24 rfl (by kernel_rfl)) rfl ⟨rfl, HB2⟩
end Go.Proofs.Ytagojbgmgkkdpaa.Wk
