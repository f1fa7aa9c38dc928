/- Walk: the reference's product of two dyadic numbers. -/
import Derived.Test.YtagojbgmgkkdpaaD3Bm
namespace Go.Proofs.Ytagojbgmgkkdpaa.Wk
open Go.RowKit Go.Proofs.Pl Go.Proofs.YtagojbgmgkkdpaaW.PrintLast
set_option linter.unusedSimpArgs false
set_option linter.unusedVariables false

theorem dyE_bd {n b : Nat} {e c : Int} (h : n < 2 ^ b) (h1 : -c ≤ e) (h2 : e ≤ c) : -c ≤ dyE n e ∧ dyE n e ≤ c + b := by
  have := twos_lt h
  unfold dyE
  split <;> omega
theorem prod_lt {x y a b c : Nat} (hx : x < 2 ^ a) (hy : y < 2 ^ b) (hc : a + b = c) : x * y < 2 ^ c := by
  rw [← hc, Nat.pow_add]
  exact Nat.mul_lt_mul'' hx hy
theorem retDy_mul {w w' : World} {na nb : Bool} {X Y : Nat} {ea eb : Int} {en : Ending} (h : RetDy w (((na && decide (0 < X)) != (nb && decide (0 < Y))) && decide (0 < oddN X * oddN Y)) (oddN X * oddN Y) (dyE X ea + dyE Y eb) en w') : RetDy w (na != nb) (X * Y) (ea + eb) en w' := by
  by_cases h0 : 0 < X ∧ 0 < Y
  · obtain ⟨hx, hy⟩ := h0
    have hP : 0 < oddN X * oddN Y := Nat.mul_pos (oddN_pos.2 hx) (oddN_pos.2 hy)
    have hXY : X * Y = oddN X * oddN Y * 2 ^ (twos X + twos Y) := by
      conv => lhs; rw [← odd_twos X, ← odd_twos Y]
      rw [Nat.pow_add]
      ac_rfl
    obtain ⟨d1, d2⟩ := dy_pow (oddN X * oddN Y) (twos X + twos Y) (ea + eb)
    rw [decide_eq_true hx, decide_eq_true hy, decide_eq_true hP, Bool.and_true, Bool.and_true, Bool.and_true, dyE_pos hx, dyE_pos hy] at h
    unfold RetDy at h ⊢
    have hz : decide (0 < X * Y) = decide (0 < oddN X * oddN Y) := by rw [decide_eq_true hP, decide_eq_true (Nat.mul_pos hx hy)]
    have he : ea + eb + ((twos X + twos Y : Nat) : Int) = ea + twos X + (eb + twos Y) := by omega
    rw [hz, hXY, d1, d2, he]
    exact h
  · have hz : X * Y = 0 := by
      rcases Nat.eq_zero_or_pos X with h1 | h1
      · rw [h1, Nat.zero_mul]
      · rw [show Y = 0 by omega, Nat.mul_zero]
    have hz' : oddN X * oddN Y = 0 := by
      rcases Nat.eq_zero_or_pos X with h1 | h1
      · rw [h1, oddN_zero, Nat.zero_mul]
      · rw [show Y = 0 by omega, oddN_zero, Nat.mul_zero]
    rw [hz'] at h
    rw [hz]
    unfold RetDy at h ⊢
    simpa [dyE_zero] using h
set_option maxRecDepth 100000 in
set_option maxHeartbeats 4000000 in
theorem r3mul_calls (na nb : Bool) (A : Option Addr) (n c : Nat) (xs : List Int) (ea : Int) (B : Option Addr) (m d : Nat) (ys : List Int) (eb : Int) (w : World) (hs : SlU w w.heap.size A n xs) (ht : SlU w w.heap.size B m ys)
    (hn : n ≤ 8) (hm : m ≤ 8) (hc : n ≤ c) (hd : m ≤ d) (ha : -20000 ≤ ea ∧ ea ≤ 20000) (hb : -20000 ≤ eb ∧ eb ≤ 20000) :
    Calls Try.prog 130 #[.agg #[.bool na, .slice A n c, .int .i64 ea], .agg #[.bool nb, .slice B m d, .int .i64 eb]] w (RetDy w (na != nb) (valL xs * valL ys) (ea + eb)) := by
  have hlx : valL xs < 2 ^ 256 := valL_lt_pow hs.2.1 hs.1 hn (show 32 * 8 = 256 from rfl)
  have hly : valL ys < 2 ^ 256 := valL_lt_pow ht.2.1 ht.1 hm (show 32 * 8 = 256 from rfl)
  have HMa := Lib.hid (fun W h => r3make_calls na A n c xs ea W h (by omega) hc (by omega) (by omega))
  have HMb := Lib.hid (fun W h => r3make_calls nb B m d ys eb W h (by omega) hd (by omega) (by omega))
  replace hlx := Lib.hid hlx
  replace hly := Lib.hid hly
  replace hs := Lib.hid hs
  replace ht := Lib.hid ht
  generalize valL xs = X at HMa hlx ⊢
  generalize valL ys = Y at HMb hly ⊢
  have BB : Blk _ (w.heap.size + 1) 115 #[.bool nb, .slice B m d, .int .i64 eb] := Blk.alloc (Blk.new1 w (.cells #[.bool na, .slice A n c, .int .i64 ea] 115) _ _) (.cells #[.bool false, .slice none 0 0, .int .i64 0] 115)
  have BR : Blk _ (w.heap.size + 1 + 1) 115 #[.bool false, .slice none 0 0, .int .i64 0] := Blk.new2 w (.cells #[.bool na, .slice A n c, .int .i64 ea] 115) (.cells #[.bool nb, .slice B m d, .int .i64 eb] 115) _ _
  have HBd := (bl_alloc (bl_alloc (bl_alloc (Below.refl w.heap.size w) (.cells #[.bool na, .slice A n c, .int .i64 ea] 115)) (.cells #[.bool nb, .slice B m d, .int .i64 eb] 115)) (.cells #[.bool false, .slice none 0 0, .int .i64 0] 115))
  go_enter Try.func130, Try.ntmps130
  go_wp2_with (first
    | (go_at_call 131; (with_reducible refine (HMa.out _ (hs.out.on HBd)).mono ?_); rintro e1 w1 ⟨A1, n1, c1, rfl, hc1, S1, hb1⟩; replace BB := BB.call hb1; replace BR := BR.call hb1; replace HBd := bl_trans HBd hb1; replace S1 := Lib.hid S1; have hlb := BR.lt; have hlb1 := BB.lt; obtain ⟨yc0, yc1, yc2⟩ : w1.cell? ⟨w.heap.size + 1, 0, none⟩ = some (.bool nb) ∧ w1.cell? ⟨w.heap.size + 1, 1, none⟩ = some (.slice B m d) ∧ w1.cell? ⟨w.heap.size + 1, 2, none⟩ = some (.int .i64 eb) := ⟨BB.cell 0, BB.cell 1, BB.cell 2⟩; generalize hsa : (na && decide (0 < X)) = sa; generalize hpa : dyE X ea = pa; replace hsa := Lib.hid hsa; replace hpa := Lib.hid hpa; replace S1 := Lib.hid (S1.out.on (bl_alloc (Below.refl w1.heap.size w1) (.cells #[.bool sa, .slice A1 n1 c1, .int .i64 pa] 115))); have BX : Blk (w1.alloc (.cells #[.bool sa, .slice A1 n1 c1, .int .i64 pa] 115)) w1.heap.size 115 _ := Blk.new w1 _ _; replace BR := BR.alloc (.cells #[.bool sa, .slice A1 n1 c1, .int .i64 pa] 115); replace HBd := bl_alloc HBd (.cells #[.bool sa, .slice A1 n1 c1, .int .i64 pa] 115); clear hb1)
    | (go_at_call 131; (with_reducible refine (HMb.out _ (ht.out.on HBd)).mono ?_); rintro e2 w2 ⟨A2, n2, c2, rfl, hc2, S2, hb2⟩; replace BX := BX.call hb2; replace BR := BR.call hb2; replace HBd := bl_trans HBd hb2; replace S1 := Lib.hid (S1.out.on hb2); replace S2 := Lib.hid S2; have hgx := BX.lt; have hlr := BR.lt; obtain ⟨xc0, xc1, xc2⟩ : w2.cell? ⟨w1.heap.size, 0, none⟩ = some (.bool sa) ∧ w2.cell? ⟨w1.heap.size, 1, none⟩ = some (.slice A1 n1 c1) ∧ w2.cell? ⟨w1.heap.size, 2, none⟩ = some (.int .i64 pa) := ⟨BX.cell 0, BX.cell 1, BX.cell 2⟩; generalize hsb : (nb && decide (0 < Y)) = sb; generalize hpb : dyE Y eb = pb; replace hsb := Lib.hid hsb; replace hpb := Lib.hid hpb; clear BB hlb1 hb2; obtain ⟨xf0, xf1, xf2⟩ : w2.frozen? ⟨w1.heap.size, 0, none⟩ = false ∧ w2.frozen? ⟨w1.heap.size, 1, none⟩ = false ∧ w2.frozen? ⟨w1.heap.size, 2, none⟩ = false := ⟨BX.frozen 0, BX.frozen 1, BX.frozen 2⟩; obtain ⟨zc0, zc1, zc2⟩ : w2.cell? ⟨w.heap.size + 1 + 1, 0, none⟩ = some (.bool false) ∧ w2.cell? ⟨w.heap.size + 1 + 1, 1, none⟩ = some (.slice none 0 0) ∧ w2.cell? ⟨w.heap.size + 1 + 1, 2, none⟩ = some (.int .i64 0) := ⟨BR.cell 0, BR.cell 1, BR.cell 2⟩; obtain ⟨zf0, zf1, zf2⟩ : w2.frozen? ⟨w.heap.size + 1 + 1, 0, none⟩ = false ∧ w2.frozen? ⟨w.heap.size + 1 + 1, 1, none⟩ = false ∧ w2.frozen? ⟨w.heap.size + 1 + 1, 2, none⟩ = false := ⟨BR.frozen 0, BR.frozen 1, BR.frozen 2⟩))
  clear hgx xc0 xc1 xc2 xf0 xf1 xf2 zc0 zc1 zc2 zf0 zf1 zf2
  have obB := (.cells #[.bool sb, .slice A2 n2 c2, .int .i64 pb] 115 : Obj)
  have BY : Blk (w2.alloc (.cells #[.bool sb, .slice A2 n2 c2, .int .i64 pb] 115)) w2.heap.size 115 #[.bool sb, .slice A2 n2 c2, .int .i64 pb] := Blk.new w2 _ _
  replace BX := BX.alloc (.cells #[.bool sb, .slice A2 n2 c2, .int .i64 pb] 115)
  replace BR := BR.alloc (.cells #[.bool sb, .slice A2 n2 c2, .int .i64 pb] 115)
  replace HBd := bl_alloc HBd (.cells #[.bool sb, .slice A2 n2 c2, .int .i64 pb] 115)
  replace S1 := Lib.hid (S1.out.on (bl_alloc (Below.refl _ _) (.cells #[.bool sb, .slice A2 n2 c2, .int .i64 pb] 115)))
  replace S2 := Lib.hid (S2.out.on (bl_alloc (Below.refl _ _) (.cells #[.bool sb, .slice A2 n2 c2, .int .i64 pb] 115)))
  generalize w2.alloc (.cells #[.bool sb, .slice A2 n2 c2, .int .i64 pb] 115) = W at BX BY BR HBd S1 S2 ⊢
  generalize w1.heap.size = g1 at BX ⊢
  generalize w2.heap.size = g2 at BY ⊢
  have l1 := len_one (k := 8) (odd_lt' (c := 256) hlx.out (Nat.le_refl _)) (by decide) S1.out.1
  have l2 := len_one (k := 8) (odd_lt' (c := 256) hly.out (Nat.le_refl _)) (by decide) S2.out.1
  have hPl : ∀ n', (digs (oddN X * oddN Y)).length = n' → n' ≤ 16 := fun n' h => len_one (prod_lt (c := 512) (odd_lt' (c := 256) hlx.out (Nat.le_refl _)) (odd_lt' (c := 256) hly.out (Nat.le_refl _)) rfl) (by decide) h
  have bpa := dyE_bd hlx.out ha.1 ha.2
  have bpb := dyE_bd hly.out hb.1 hb.2
  rw [hpa.out] at bpa
  rw [hpb.out] at bpb
  obtain ⟨bp1, bp2⟩ := bpa
  obtain ⟨bp3, bp4⟩ := bpb
  have hR : ∀ en w', RetDy w ((sa != sb) && decide (0 < oddN X * oddN Y)) (oddN X * oddN Y) (pa + pb) en w' → RetDy w (na != nb) (X * Y) (ea + eb) en w' := by
    intro en w' h
    rw [← hsa.out, ← hsb.out, ← hpa.out, ← hpb.out] at h
    exact retDy_mul h
  have HTw := (fun W g h => r2two_calls sa sb A1 n1 c1 (digs (oddN X)) A2 n2 c2 (digs (oddN Y)) W g h (by omega) (by omega) hc1 hc2)
  rw [valL_digs, valL_digs] at HTw
  generalize oddN X * oddN Y = P at HTw hR hPl
  unfold RetW at HTw
  have HM3 := (fun A n c W h hn hc => r3make_calls ((sa != sb) && decide (0 < P)) A n c (digs P) (pa + pb) W h hn hc (by omega) (by omega))
  rw [valL_digs] at HM3
  have hsw : IntKind.i64.wrap (pa + pb) = pa + pb := wrap_z (by omega) (by omega)
  unfold RetDy at HM3
  generalize hsz : ((sa != sb) && decide (0 < P)) = sz at HTw HM3 hR
  generalize hpz : dyE P (pa + pb) = pz at HM3
  rw [← hsw] at HM3
  replace hsz := Lib.hid hsz
  replace hpz := Lib.hid hpz
  replace HTw := Lib.hid HTw
  replace HM3 := Lib.hid HM3
  replace hPl := Lib.hid hPl
  replace hR := Lib.hid hR
  clear hsw hlx hly hsa hsb hpa hpb ha hb
  replace BX := BX.drew
  replace BY := BY.drew
  replace BR := BR.drew
  replace HBd := bl_drew HBd
  replace S1 := Lib.hid (S1.out.on (bl_drew (Below.refl _ _)))
  replace S2 := Lib.hid (S2.out.on (bl_drew (Below.refl _ _)))
  refine start_ (n := 12) (S := fun w' => w'.cell? ⟨g1, 0, none⟩ = some (.bool sa) ∧ w'.cell? ⟨g1, 1, none⟩ = some (.slice A1 n1 c1) ∧ w'.cell? ⟨g1, 2, none⟩ = some (.int .i64 pa) ∧ w'.cell? ⟨g2, 0, none⟩ = some (.bool sb) ∧ w'.cell? ⟨g2, 1, none⟩ = some (.slice A2 n2 c2) ∧ w'.cell? ⟨g2, 2, none⟩ = some (.int .i64 pb)) (ds := [11]) (bq 12 0) (by kernel_rfl) rfl rfl ⟨BX.cell 0, BX.cell 1, BX.cell 2, BY.cell 0, BY.cell 1, BY.cell 2⟩ (fun hHeld => ?_)
  refine pure_ (i := 0) (N := some 17) (v := ?_) (a' := ?_) (bq 12 1) rfl rfl (by kernel_rfl) (fun _ _ _ h => h) (Or.inl ⟨by rfl, ?_⟩) ?_ ?_
  rotate_left
  · intro w'
    go_simp
    with_reducible rfl
  rotate_left
  · simp only [Act.put, pA, pB, pC]
    rfl
  refine take_ (i := 1) (N := some 18) (v := ?_) (a' := ?_) (bq 12 3) rfl rfl (by kernel_rfl) (fun _ _ _ h => h) (Or.inl ⟨by rfl, ?_⟩) hHeld ?_ ?_
  rotate_left
  · rintro w' ⟨s0_, s1_, s2_, s3_, s4_, s5_⟩
    go_simp
    with_reducible rfl
  rotate_left
  · simp only [Act.put, pA, pB, pC]
    rfl
  refine pure_ (i := 2) (N := some 19) (v := ?_) (a' := ?_) (bq 12 7) rfl rfl (by kernel_rfl) (fun _ _ _ h => h) (Or.inl ⟨by rfl, ?_⟩) ?_ ?_
  rotate_left
  · intro w'
    go_simp
    with_reducible rfl
  rotate_left
  · simp only [Act.put, pA, pB, pC]
    rfl
  refine take_ (i := 3) (N := some 20) (v := ?_) (a' := ?_) (bq 12 15) rfl rfl (by kernel_rfl) (fun _ _ _ h => h) (Or.inl ⟨by rfl, ?_⟩) hHeld ?_ ?_
  rotate_left
  · rintro w' ⟨s0_, s1_, s2_, s3_, s4_, s5_⟩
    go_simp
    with_reducible rfl
  rotate_left
  · simp only [Act.put, pA, pB, pC]
    rfl
  refine pure_ (i := 5) (N := some 22) (v := ?_) (a' := ?_) (bq 12 47) rfl rfl (by kernel_rfl) (fun _ _ _ h => h) (Or.inl ⟨by rfl, ?_⟩) ?_ ?_
  rotate_left
  · intro w'
    go_simp
    with_reducible rfl
  rotate_left
  · simp only [Act.put, pA, pB, pC]
    rfl
  refine take_ (i := 6) (N := some 23) (v := ?_) (a' := ?_) (bq 12 111) rfl rfl (by kernel_rfl) (fun _ _ _ h => h) (Or.inl ⟨by rfl, ?_⟩) hHeld ?_ ?_
  rotate_left
  · rintro w' ⟨s0_, s1_, s2_, s3_, s4_, s5_⟩
    go_simp
    with_reducible rfl
  rotate_left
  · simp only [Act.put, pA, pB, pC]
    rfl
  refine pure_ (i := 7) (N := some 24) (v := ?_) (a' := ?_) (bq 12 239) rfl rfl (by kernel_rfl) (fun _ _ _ h => h) (Or.inl ⟨by rfl, ?_⟩) ?_ ?_
  rotate_left
  · intro w'
    go_simp
    with_reducible rfl
  rotate_left
  · simp only [Act.put, pA, pB, pC]
    rfl
  refine take_ (i := 8) (N := some 25) (v := ?_) (a' := ?_) (bq 12 495) rfl rfl (by kernel_rfl) (fun _ _ _ h => h) (Or.inl ⟨by rfl, ?_⟩) hHeld ?_ ?_
  rotate_left
  · rintro w' ⟨s0_, s1_, s2_, s3_, s4_, s5_⟩
    go_simp
    with_reducible rfl
  rotate_left
  · simp only [Act.put, pA, pB, pC]
    rfl
  refine pure_ (i := 9) (N := some 26) (v := ?_) (a' := ?_) (bq 12 1007) rfl rfl (by kernel_rfl) (fun _ _ _ h => h) (Or.inl ⟨by rfl, ?_⟩) ?_ ?_
  rotate_left
  · intro w'
    go_simp
    with_reducible rfl
  rotate_left
  · simp only [Act.put, pA, pB, pC]
    rfl
  refine one_ (i := 4) (N := some 21) (bq 12 1023) rfl rfl (by kernel_rfl) (by decide) (fun K hK => ?_)
  refine goes_ Try.func160 (by kernel_rfl) rfl #[.agg #[.bool sa, .slice A1 n1 c1], .agg #[.bool sb, .slice A2 n2 c2]] (by first | rfl | go_simp) rfl rfl (by simp only [List.map_toArray, List.map_cons, List.map_nil] <;> rfl) ?_
  with_reducible refine (HTw.out _ S1.out S2.out).mono ?_
  rintro e w4 ⟨A4, n4, c4, rfl, hc4, S4, hb⟩
  refine ⟨_, rfl, ?_⟩
  replace S4 := Lib.hid S4
  replace BX := BX.call hb
  replace BY := BY.call hb
  replace BR := BR.call hb
  replace HBd := bl_trans HBd hb
  have hl4 := hPl.out n4 S4.out.1
  refine hK.out _ _ ⟨BX.cell 0, BX.cell 1, BX.cell 2, BY.cell 0, BY.cell 1, BY.cell 2⟩ (fun hHeld => ?_)
  clear hK K hb
  refine norm_ (a' := ?_) ?_ ?_
  rotate_left
  · show Act.put _ (some 21) _ = _
    simp only [Act.put, pA, pB, pC]
    rfl
  refine one_ (i := 10) (N := some 27) (bq 12 2047) rfl rfl (by kernel_rfl) (by decide) (fun K hK => ?_)
  refine goes_ Try.func131 (by kernel_rfl) rfl #[.agg #[.bool sz, .slice A4 n4 c4], .int .i64 (IntKind.i64.wrap (pa + pb))] (by first | rfl | go_simp) rfl rfl (by simp only [List.map_toArray, List.map_cons, List.map_nil] <;> rfl) ?_
  with_reducible refine (HM3.out A4 n4 c4 _ S4.out (by omega) hc4).mono ?_
  rintro e w7 ⟨A6, n6, c6, rfl, hc6, S6, hb⟩
  refine ⟨_, rfl, ?_⟩
  replace S6 := Lib.hid S6
  replace BX := BX.call hb
  replace BY := BY.call hb
  replace BR := BR.call hb
  replace HBd := bl_trans HBd hb
  obtain ⟨zc0, zc1, zc2⟩ : w7.cell? ⟨w.heap.size + 1 + 1, 0, none⟩ = some (.bool false) ∧ w7.cell? ⟨w.heap.size + 1 + 1, 1, none⟩ = some (.slice none 0 0) ∧ w7.cell? ⟨w.heap.size + 1 + 1, 2, none⟩ = some (.int .i64 0) := ⟨BR.cell 0, BR.cell 1, BR.cell 2⟩
  obtain ⟨zf0, zf1, zf2⟩ : w7.frozen? ⟨w.heap.size + 1 + 1, 0, none⟩ = false ∧ w7.frozen? ⟨w.heap.size + 1 + 1, 1, none⟩ = false ∧ w7.frozen? ⟨w.heap.size + 1 + 1, 2, none⟩ = false := ⟨BR.frozen 0, BR.frozen 1, BR.frozen 2⟩
  refine hK.out _ _ ⟨BX.cell 0, BX.cell 1, BX.cell 2, BY.cell 0, BY.cell 1, BY.cell 2⟩ (fun hHeld => ?_)
  clear hK K hb
  refine norm_ (a' := ?_) ?_ ?_
  rotate_left
  · show Act.put _ (some 27) _ = _
    simp only [Act.put, pA, pB, pC]
    rfl
  refine last_ (i := 11) (N := none) (bq 12 4095) rfl rfl (by kernel_rfl) (by decide) (fun K hK => ?_)
  refine skip_ (w1 := ?_) (by rfl) rfl ?_ ?_
  rotate_left
  · go_simp
    rfl
  refine hK.out _ _ ?_
  clear hK K
  refine done_ (by kernel_rfl) ?_
  go_wp2_with fail
  generalize hsv : (sz && decide (0 < P)) = sv
  have B2 : Blk _ (w.heap.size + 1 + 1) 115 #[.bool sv, .slice A6 n6 c6, .int .i64 pz] := (((BR.set_ 0 (.bool sv)).set_ 1 (.slice A6 n6 c6)).set_ 2 (.int .i64 pz))
  have HB2 := (((HBd.setCell (p := ⟨w.heap.size + 1 + 1, 0, none⟩) (by show w.heap.size ≤ w.heap.size + 1 + 1; omega) (.bool sv)).setCell (p := ⟨w.heap.size + 1 + 1, 1, none⟩) (by show w.heap.size ≤ w.heap.size + 1 + 1; omega) (.slice A6 n6 c6)).setCell (p := ⟨w.heap.size + 1 + 1, 2, none⟩) (by show w.heap.size ≤ w.heap.size + 1 + 1; omega) (.int .i64 pz))
  have S7 := ((S6.out.store BR (noU3 _ _ _ _ _) 0 (.bool sv)).store (BR.set_ 0 _) (noU3 _ _ _ _ _) 1 (.slice A6 n6 c6)).store ((BR.set_ 0 _).set_ 1 _) (noU3 _ _ _ _ _) 2 (.int .i64 pz)
  exact bodyPost_ret (results_cell_row rfl _ _ (w.heap.size + 1 + 1) 115 _ (0, 0) _ rfl B2 Try.underlying115 rfl (by kernel_rfl)) rfl (hR.out _ _ ⟨A6, n6, c6, by rw [hsv, hpz.out], hc6, S7.more (by simp), HB2⟩)
end Go.Proofs.Ytagojbgmgkkdpaa.Wk
