/- Walk: pelorusref23.Decode. -/
import Derived.Test.YtakajahogjeiaabDecB
namespace Go.Proofs.Ytakajahogjeiaab.Wk
open Go.RowKit Go.Proofs.Pl Go.Proofs.YtakajahogjeiaabW.PrintLast
set_option linter.unusedSimpArgs false
set_option linter.unusedVariables false

theorem rdO_ok (bs : List Int) (h : Byt bs) (hb : (rdO bs).2.2 = false) : mayOp (rdO bs).1 = decide (valB (tk 1 bs) ≤ 3) := by
  obtain ⟨t, r1, b1, h1⟩ := ex3 (rdN (dr 1 bs))
  obtain ⟨a, r2, b2, h2⟩ := ex3 (rdI r1)
  obtain ⟨b, r3, b3, h3⟩ := ex3 (rdI r2)
  obtain ⟨c, r4, b4, h4⟩ := ex3 (rdI r3)
  rw [rdO_of h1 h2 h3 h4] at hb ⊢
  dsimp only at hb ⊢
  simp only [Bool.or_eq_false_iff] at hb
  obtain ⟨⟨⟨⟨s1, rfl⟩, rfl⟩, rfl⟩, rfl⟩ := hb
  obtain ⟨e1, m1, u1, k1⟩ := rdN_inv (dr 1 bs) (h.dr 1) h1
  obtain ⟨e2, m2, u2, k2⟩ := rdI_inv _ k1 h2
  obtain ⟨e3, m3, u3, k3⟩ := rdI_inv _ k2 h3
  obtain ⟨e4, m4, u4, k4⟩ := rdI_inv _ k3 h4
  have hr := valB_range _ (h.tk 1)
  unfold mayOp
  dsimp only
  rw [m1, m2, m3, m4]
  simp
  omega
set_option maxRecDepth 100000 in
set_option maxHeartbeats 8000000 in
theorem rdecode_calls (A : Option Addr) (n c : Nat) (bs : List Int) (w : World) (hs : SlB w w.heap.size A n bs) (hby : Byt bs) (hc : n ≤ c) (hcm : c ≤ 9223372036854775807) :
    Calls Try.prog 25 #[.slice A n c] w fun e w' => ∃ A' c', e = .returned (.tuple #[.slice A' (decO bs).1.length c', .int .i64 (decO bs).2]) ∧ SlO w' w'.heap.size A' (decO bs).1.length (decO bs).1 ∧ Below w.heap.size w w' := by
  have B1 := Blk.new w 98 #[.slice A n c, .bool false]
  have R1 := Rd.made hs hby hc hcm B1 (World.grownBy_alloc w _ _) (Nat.le_refl _)
  have HB1 := bl_alloc (Below.refl w.heap.size w) (.cells #[.slice A n c, .bool false] 98)
  go_enter Try.func25, Try.ntmps25
  go_wp2
  go_loopw [5, 6, 7, 8, 9, 10] (fun v _ _ _ _ _ wr => ∃ (l : List Op) (bs' : List Int), decF (257 - l.length) l bs' = decO bs ∧ l.length ≤ 256 ∧ Rd wr w.heap.size w.heap.size bs' false ∧ OwnO wr (w.heap.size + 1) v l ∧ Below w.heap.size w wr) (fun v _ _ _ _ _ _ => 257 - lenV v)
  case atStart => exact ⟨[], bs, rfl, by simp, R1, OwnO.nil _ _, HB1⟩
  case round =>
    obtain ⟨l, bs', hdec, hl, R, O, HB⟩ := hrel
    obtain ⟨A', c', rfl, S⟩ := O.sl
    by_cases hb0 : bs' = []
    · subst hb0
      rw [decF_nil (by omega)] at hdec
      obtain ⟨⟨A2, c2, q0⟩, q1⟩ := R.c0
      rw [List.length_nil] at q0
      go_wp2
      go_ret2
      rw [← hdec]
      exact ⟨A', c', rfl, S, HB⟩
    · have hnb : 0 < bs'.length := List.length_pos_iff.2 hb0
      obtain ⟨⟨A2, c2, q0⟩, q1⟩ := R.c0
      have hnbi : (0 : Int) < (bs'.length : Int) := by omega
      by_cases h256 : l.length = 256
      · rw [decF_long (by omega) hb0 (by omega)] at hdec
        generalize bs'.length = nb at q0 hnbi
        generalize l.length = nl at h256 S O ⊢
        subst h256
        go_wp2
        go_ret2
        rw [← hdec]
        exact ⟨none, 0, rfl, ⟨rfl, fun h => absurd h (by simp)⟩, HB⟩
      · have hln : ¬ (256 ≤ (l.length : Int)) := by omega
        obtain ⟨m, hm1, hm2⟩ := tk_one bs'
        obtain ⟨t, r1, b1, e1⟩ := ex3' (rdN (dr 1 bs'))
        obtain ⟨x, r2, b2, e2⟩ := ex3' (rdI r1)
        obtain ⟨y, r3, b3, e3⟩ := ex3' (rdI r2)
        obtain ⟨z, r4, b4, e4⟩ := ex3' (rdI r3)
        have hO := rdO_of e1 e2 e3 e4
        have hok := rdO_ok bs' R.2.1
        rw [hO, hm2] at hok
        rw [hm2] at hO
        dsimp only at hok
        have hmr : 0 ≤ m ∧ m < 256 := ((show Byt bs' from R.2.1).tk 1) m (by rw [hm1]; simp)
        obtain ⟨hmr0, hmr1⟩ := hmr
        have HT := Lib.hid (number1_calls w.heap.size w.heap.size bs' false wr R)
        rw [hm2] at HT
        have HN := Lib.hid (fun bad W h => rnum_calls w.heap.size w.heap.size (dr 1 bs') bad W h)
        have HI1 := Lib.hid (fun bad W h => riv_calls w.heap.size w.heap.size r1 bad W h)
        have HI2 := Lib.hid (fun bad W h => riv_calls w.heap.size w.heap.size r2 bad W h)
        have HI3 := Lib.hid (fun bad W h => riv_calls w.heap.size w.heap.size r3 bad W h)
        rw [e1] at HN
        rw [e2] at HI1
        rw [e3] at HI2
        rw [e4] at HI3
        dsimp only at HN HI1 HI2 HI3
        obtain ⟨bb, hbb⟩ : ∃ bb, (((((false || sh 1 bs') || b1) || b2) || b3) || b4) = bb := ⟨_, rfl⟩
        have Hbb := Lib.hid hbb
        have hbb' : ((((sh 1 bs' || b1) || b2) || b3) || b4) = bb := by rw [← hbb, Bool.false_or]
        rw [decF_more (by omega) hb0 (by omega), hO] at hdec
        dsimp only at hdec
        rw [hbb'] at hdec hok
        generalize bs'.length = nb at q0 hnbi hnb
        have Hdec := Lib.hid hdec
        have Hok := Lib.hid hok
        have Hhm := Lib.hid hm1
        have Hl := Lib.hid (show l.length ≤ 256 ∧ l.length ≠ 256 from ⟨hl, h256⟩)
        clear hdec hok hm1 hm2 e1 e2 e3 e4 hO hbb hbb' hb0 hs hby hnb hl h256
        have hpw : w.heap.size < wr.heap.size := R.lt
        have Hob := Lib.hid O.past
        cases bb
        · by_cases hm3 : 3 < m
          · have hm3' : decide (3 < m) = true := decide_eq_true hm3
            have Hmy := Lib.hid (show mayOp ⟨m, t, x, y, z⟩ = false by rw [Hok.out rfl]; simp; omega)
            go_wp2_with (first
              | (go_at_call 76; ((with_reducible refine HT.out.mono ?_); rintro e w1 ⟨rfl, R1, G1⟩; have O1 := O.far G1 (Or.inl (Nat.lt_succ_self _)); have HB1 := grown_below HB G1 (by omega) (Nat.le_refl _); have hs1 := G1.size; clear HT q0 q1))
              | (go_at_call 77; ((with_reducible refine (HN.out _ _ R1).mono ?_); rintro e w2 ⟨rfl, R2, G2⟩; have O2 := O1.far G2 (Or.inl (Nat.lt_succ_self _)); have HB2 := grown_below HB1 G2 (by omega) (Nat.le_refl _); have hs2 := G2.size))
              | (refine wpList_storeG rfl 24 (.tmp 7) (.tmp 27) rfl w2.heap.size _ #[.int .i64 t.k, .bool t.n, .int .u64 t.m, .int .i64 t.e] (Blk.new w2 _ _) rfl rfl (by kernel_rfl) rfl (by simp [Value.oneCell']) ?_; intro W3 X3 G3 hs3; have R3 := (R2.alloc _).far' G3 (by omega); have O3 := O2.fresh G3; have HB3 := grown_below2 HB2 G3 (by omega); have hs3' : W3.heap.size = w2.heap.size + 1 := (by rw [hs3] <;> simp))
              | (go_at_call 78; first
                | ((with_reducible refine (HI1.out _ _ R3).mono ?_); rintro e w4 ⟨rfl, R4, G4⟩; have X4 := X3.grown G4 (by simp <;> omega); have O4 := O3.far G4 (Or.inl (Nat.lt_succ_self _)); have HB4 := grown_below HB3 G4 (by omega) (Nat.le_refl _); have hs4 := G4.size)
                | ((with_reducible refine (HI2.out _ _ R5).mono ?_); rintro e w6 ⟨rfl, R6, G6⟩; have X6 := X5.grown G6 (by simp <;> omega); have Y6 := Y5.grown G6 (by simp <;> omega); have O6 := O5.far G6 (Or.inl (Nat.lt_succ_self _)); have HB6 := grown_below HB5 G6 (by omega) (Nat.le_refl _); have hs6 := G6.size)
                | ((with_reducible refine (HI3.out _ _ R7).mono ?_); rintro e w8 ⟨rfl, R8, G8⟩; have X8 := X7.grown G8 (by simp <;> omega); have Y8 := Y7.grown G8 (by simp <;> omega); have Z8 := Z7.grown G8 (by simp <;> omega); have O8 := O7.far G8 (Or.inl (Nat.lt_succ_self _)); have HB8 := grown_below HB7 G8 (by omega) (Nat.le_refl _); have hs8 := G8.size))
              | (refine wpList_storeG rfl 26 (.tmp 8) (.tmp 29) rfl w4.heap.size _ #[.bool x.emp, .int .i64 x.lo.k, .bool x.lo.n, .int .u64 x.lo.m, .int .i64 x.lo.e, .int .i64 x.hi.k, .bool x.hi.n, .int .u64 x.hi.m, .int .i64 x.hi.e] (Blk.new w4 _ _) rfl rfl (by kernel_rfl) rfl (by simp [Value.oneCell']) ?_; intro W5 Y5 G5 hs5; have R5 := (R4.alloc _).far' G5 (by omega); have O5 := O4.fresh G5; have HB5 := grown_below2 HB4 G5 (by omega); have hs5' : W5.heap.size = w4.heap.size + 1 := (by rw [hs5] <;> simp); have X5 := (X4.alloc _).grown G5 (by simp <;> omega))
              | (refine wpList_storeG rfl 26 (.tmp 9) (.tmp 31) rfl w6.heap.size _ #[.bool y.emp, .int .i64 y.lo.k, .bool y.lo.n, .int .u64 y.lo.m, .int .i64 y.lo.e, .int .i64 y.hi.k, .bool y.hi.n, .int .u64 y.hi.m, .int .i64 y.hi.e] (Blk.new w6 _ _) rfl rfl (by kernel_rfl) rfl (by simp [Value.oneCell']) ?_; intro W7 Z7 G7 hs7; have R7 := (R6.alloc _).far' G7 (by omega); have O7 := O6.fresh G7; have HB7 := grown_below2 HB6 G7 (by omega); have hs7' : W7.heap.size = w6.heap.size + 1 := (by rw [hs7] <;> simp); have X7 := (X6.alloc _).grown G7 (by simp <;> omega); have Y7 := (Y6.alloc _).grown G7 (by simp <;> omega))
              | (refine wpList_storeG rfl 26 (.tmp 10) (.tmp 33) rfl w8.heap.size _ #[.bool z.emp, .int .i64 z.lo.k, .bool z.lo.n, .int .u64 z.lo.m, .int .i64 z.lo.e, .int .i64 z.hi.k, .bool z.hi.n, .int .u64 z.hi.m, .int .i64 z.hi.e] (Blk.new w8 _ _) rfl rfl (by kernel_rfl) rfl (by simp [Value.oneCell']) ?_; intro W10 V10 G10 hs10; have R10 := (R8.alloc _).far' G10 (by omega); have O10 := O8.fresh G10; have HB10 := grown_below2 HB8 G10 (by omega); have hs10' : W10.heap.size = w8.heap.size + 1 := (by rw [hs10] <;> simp); have X10 := (X8.alloc _).grown G10 (by simp <;> omega); have Y10 := (Y8.alloc _).grown G10 (by simp <;> omega); have Z10 := (Z8.alloc _).grown G10 (by simp <;> omega); rw [Hbb.out] at R10; obtain ⟨q1, q2⟩ := R10.cbad)
              | (refine wpList_load_row rfl 24 (.tmp 7) rfl w2.heap.size rfl 24 _ (0, 0) _ X10 Try.underlying24 rfl (by kernel_rfl) ?_)
              | (refine wpList_load_row rfl 26 (.tmp 8) rfl w4.heap.size rfl 26 _ (0, 0) _ Y10 Try.underlying26 rfl (by kernel_rfl) ?_)
              | (refine wpList_load_row rfl 26 (.tmp 9) rfl w6.heap.size rfl 26 _ (0, 0) _ Z10 Try.underlying26 rfl (by kernel_rfl) ?_)
              | (refine wpList_load_row rfl 26 (.tmp 10) rfl w8.heap.size rfl 26 _ (0, 0) _ V10 Try.underlying26 rfl (by kernel_rfl) ?_)
              | (refine wpList_lit1O rfl (.tmp 48) rfl ⟨m, t, x, y, z⟩ rfl ?_)
              | (at_builtin; refine wpList_appO rfl (.tmp 42) (.tmp 49) rfl (w.heap.size + 1) _ l rfl (O10.call ((Below.refl _ _).alloc (Nat.le_refl _) _)) (W10.heap.size + 1) W10.heap.size 0 1 1 [⟨m, t, x, y, z⟩] rfl (SlO.lit1 (Blk.new W10 _ _) (Nat.lt_succ_self _)) (by have := Hl.out.1; simp; omega) (by simp <;> omega) ?_; intro v12 w12 O12 G12; have hs12 := G12.size))
            have hd : decO bs = ([], 2) := by rw [← Hdec.out, Hmy.out]; rfl
            go_ret2
            rw [hd]
            exact ⟨none, 0, rfl, ⟨rfl, fun h => absurd h (by simp)⟩, HB10⟩
          · have hm3' : decide (3 < m) = false := decide_eq_false hm3
            have Hmy := Lib.hid (show mayOp ⟨m, t, x, y, z⟩ = true by rw [Hok.out rfl]; simp; omega)
            go_wp2_with (first
              | (go_at_call 76; ((with_reducible refine HT.out.mono ?_); rintro e w1 ⟨rfl, R1, G1⟩; have O1 := O.far G1 (Or.inl (Nat.lt_succ_self _)); have HB1 := grown_below HB G1 (by omega) (Nat.le_refl _); have hs1 := G1.size; clear HT q0 q1))
              | (go_at_call 77; ((with_reducible refine (HN.out _ _ R1).mono ?_); rintro e w2 ⟨rfl, R2, G2⟩; have O2 := O1.far G2 (Or.inl (Nat.lt_succ_self _)); have HB2 := grown_below HB1 G2 (by omega) (Nat.le_refl _); have hs2 := G2.size))
              | (refine wpList_storeG rfl 24 (.tmp 7) (.tmp 27) rfl w2.heap.size _ #[.int .i64 t.k, .bool t.n, .int .u64 t.m, .int .i64 t.e] (Blk.new w2 _ _) rfl rfl (by kernel_rfl) rfl (by simp [Value.oneCell']) ?_; intro W3 X3 G3 hs3; have R3 := (R2.alloc _).far' G3 (by omega); have O3 := O2.fresh G3; have HB3 := grown_below2 HB2 G3 (by omega); have hs3' : W3.heap.size = w2.heap.size + 1 := (by rw [hs3] <;> simp))
              | (go_at_call 78; first
                | ((with_reducible refine (HI1.out _ _ R3).mono ?_); rintro e w4 ⟨rfl, R4, G4⟩; have X4 := X3.grown G4 (by simp <;> omega); have O4 := O3.far G4 (Or.inl (Nat.lt_succ_self _)); have HB4 := grown_below HB3 G4 (by omega) (Nat.le_refl _); have hs4 := G4.size)
                | ((with_reducible refine (HI2.out _ _ R5).mono ?_); rintro e w6 ⟨rfl, R6, G6⟩; have X6 := X5.grown G6 (by simp <;> omega); have Y6 := Y5.grown G6 (by simp <;> omega); have O6 := O5.far G6 (Or.inl (Nat.lt_succ_self _)); have HB6 := grown_below HB5 G6 (by omega) (Nat.le_refl _); have hs6 := G6.size)
                | ((with_reducible refine (HI3.out _ _ R7).mono ?_); rintro e w8 ⟨rfl, R8, G8⟩; have X8 := X7.grown G8 (by simp <;> omega); have Y8 := Y7.grown G8 (by simp <;> omega); have Z8 := Z7.grown G8 (by simp <;> omega); have O8 := O7.far G8 (Or.inl (Nat.lt_succ_self _)); have HB8 := grown_below HB7 G8 (by omega) (Nat.le_refl _); have hs8 := G8.size))
              | (refine wpList_storeG rfl 26 (.tmp 8) (.tmp 29) rfl w4.heap.size _ #[.bool x.emp, .int .i64 x.lo.k, .bool x.lo.n, .int .u64 x.lo.m, .int .i64 x.lo.e, .int .i64 x.hi.k, .bool x.hi.n, .int .u64 x.hi.m, .int .i64 x.hi.e] (Blk.new w4 _ _) rfl rfl (by kernel_rfl) rfl (by simp [Value.oneCell']) ?_; intro W5 Y5 G5 hs5; have R5 := (R4.alloc _).far' G5 (by omega); have O5 := O4.fresh G5; have HB5 := grown_below2 HB4 G5 (by omega); have hs5' : W5.heap.size = w4.heap.size + 1 := (by rw [hs5] <;> simp); have X5 := (X4.alloc _).grown G5 (by simp <;> omega))
              | (refine wpList_storeG rfl 26 (.tmp 9) (.tmp 31) rfl w6.heap.size _ #[.bool y.emp, .int .i64 y.lo.k, .bool y.lo.n, .int .u64 y.lo.m, .int .i64 y.lo.e, .int .i64 y.hi.k, .bool y.hi.n, .int .u64 y.hi.m, .int .i64 y.hi.e] (Blk.new w6 _ _) rfl rfl (by kernel_rfl) rfl (by simp [Value.oneCell']) ?_; intro W7 Z7 G7 hs7; have R7 := (R6.alloc _).far' G7 (by omega); have O7 := O6.fresh G7; have HB7 := grown_below2 HB6 G7 (by omega); have hs7' : W7.heap.size = w6.heap.size + 1 := (by rw [hs7] <;> simp); have X7 := (X6.alloc _).grown G7 (by simp <;> omega); have Y7 := (Y6.alloc _).grown G7 (by simp <;> omega))
              | (refine wpList_storeG rfl 26 (.tmp 10) (.tmp 33) rfl w8.heap.size _ #[.bool z.emp, .int .i64 z.lo.k, .bool z.lo.n, .int .u64 z.lo.m, .int .i64 z.lo.e, .int .i64 z.hi.k, .bool z.hi.n, .int .u64 z.hi.m, .int .i64 z.hi.e] (Blk.new w8 _ _) rfl rfl (by kernel_rfl) rfl (by simp [Value.oneCell']) ?_; intro W10 V10 G10 hs10; have R10 := (R8.alloc _).far' G10 (by omega); have O10 := O8.fresh G10; have HB10 := grown_below2 HB8 G10 (by omega); have hs10' : W10.heap.size = w8.heap.size + 1 := (by rw [hs10] <;> simp); have X10 := (X8.alloc _).grown G10 (by simp <;> omega); have Y10 := (Y8.alloc _).grown G10 (by simp <;> omega); have Z10 := (Z8.alloc _).grown G10 (by simp <;> omega); rw [Hbb.out] at R10; obtain ⟨q1, q2⟩ := R10.cbad)
              | (refine wpList_load_row rfl 24 (.tmp 7) rfl w2.heap.size rfl 24 _ (0, 0) _ X10 Try.underlying24 rfl (by kernel_rfl) ?_)
              | (refine wpList_load_row rfl 26 (.tmp 8) rfl w4.heap.size rfl 26 _ (0, 0) _ Y10 Try.underlying26 rfl (by kernel_rfl) ?_)
              | (refine wpList_load_row rfl 26 (.tmp 9) rfl w6.heap.size rfl 26 _ (0, 0) _ Z10 Try.underlying26 rfl (by kernel_rfl) ?_)
              | (refine wpList_load_row rfl 26 (.tmp 10) rfl w8.heap.size rfl 26 _ (0, 0) _ V10 Try.underlying26 rfl (by kernel_rfl) ?_)
              | (refine wpList_lit1O rfl (.tmp 48) rfl ⟨m, t, x, y, z⟩ rfl ?_)
              | (at_builtin; refine wpList_appO rfl (.tmp 42) (.tmp 49) rfl (w.heap.size + 1) _ l rfl (O10.call ((Below.refl _ _).alloc (Nat.le_refl _) _)) (W10.heap.size + 1) W10.heap.size 0 1 1 [⟨m, t, x, y, z⟩] rfl (SlO.lit1 (Blk.new W10 _ _) (Nat.lt_succ_self _)) (by have := Hl.out.1; simp; omega) (by simp <;> omega) ?_; intro v12 w12 O12 G12; have hs12 := G12.size))
            have hd : decF (257 - (l.length + 1)) (l ++ [⟨m, t, x, y, z⟩]) r4 = decO bs := by rw [← Hdec.out, Hmy.out]; rfl
            have hol := O10.lt
            have R12 := (R10.alloc (.cells (opCells ⟨m, t, x, y, z⟩).toArray 82)).app G12 (by intro e; have := hol _ e; omega) (fun k e => by have := hol k e; omega)
            have HB12 := (HB10.alloc (by omega) (.cells (opCells ⟨m, t, x, y, z⟩).toArray 82)).grown G12 (by simp <;> omega) (fun k e => by have := hol k e; omega)
            obtain ⟨hl1, hl2⟩ := Hl.out
            obtain ⟨A9, c9, rfl, _⟩ := O12.sl
            refine ⟨⟨l ++ [⟨m, t, x, y, z⟩], r4, by rw [List.length_append]; exact hd, by rw [List.length_append]; simp; omega, R12, O12, HB12⟩, ?_⟩
            simp only [lenV, List.length_append, List.length_singleton]
            omega
        · go_wp2_with (first
            | (go_at_call 76; ((with_reducible refine HT.out.mono ?_); rintro e w1 ⟨rfl, R1, G1⟩; have O1 := O.far G1 (Or.inl (Nat.lt_succ_self _)); have HB1 := grown_below HB G1 (by omega) (Nat.le_refl _); have hs1 := G1.size; clear HT q0 q1))
            | (go_at_call 77; ((with_reducible refine (HN.out _ _ R1).mono ?_); rintro e w2 ⟨rfl, R2, G2⟩; have O2 := O1.far G2 (Or.inl (Nat.lt_succ_self _)); have HB2 := grown_below HB1 G2 (by omega) (Nat.le_refl _); have hs2 := G2.size))
            | (refine wpList_storeG rfl 24 (.tmp 7) (.tmp 27) rfl w2.heap.size _ #[.int .i64 t.k, .bool t.n, .int .u64 t.m, .int .i64 t.e] (Blk.new w2 _ _) rfl rfl (by kernel_rfl) rfl (by simp [Value.oneCell']) ?_; intro W3 X3 G3 hs3; have R3 := (R2.alloc _).far' G3 (by omega); have O3 := O2.fresh G3; have HB3 := grown_below2 HB2 G3 (by omega); have hs3' : W3.heap.size = w2.heap.size + 1 := (by rw [hs3] <;> simp))
            | (go_at_call 78; first
              | ((with_reducible refine (HI1.out _ _ R3).mono ?_); rintro e w4 ⟨rfl, R4, G4⟩; have X4 := X3.grown G4 (by simp <;> omega); have O4 := O3.far G4 (Or.inl (Nat.lt_succ_self _)); have HB4 := grown_below HB3 G4 (by omega) (Nat.le_refl _); have hs4 := G4.size)
              | ((with_reducible refine (HI2.out _ _ R5).mono ?_); rintro e w6 ⟨rfl, R6, G6⟩; have X6 := X5.grown G6 (by simp <;> omega); have Y6 := Y5.grown G6 (by simp <;> omega); have O6 := O5.far G6 (Or.inl (Nat.lt_succ_self _)); have HB6 := grown_below HB5 G6 (by omega) (Nat.le_refl _); have hs6 := G6.size)
              | ((with_reducible refine (HI3.out _ _ R7).mono ?_); rintro e w8 ⟨rfl, R8, G8⟩; have X8 := X7.grown G8 (by simp <;> omega); have Y8 := Y7.grown G8 (by simp <;> omega); have Z8 := Z7.grown G8 (by simp <;> omega); have O8 := O7.far G8 (Or.inl (Nat.lt_succ_self _)); have HB8 := grown_below HB7 G8 (by omega) (Nat.le_refl _); have hs8 := G8.size))
            | (refine wpList_storeG rfl 26 (.tmp 8) (.tmp 29) rfl w4.heap.size _ #[.bool x.emp, .int .i64 x.lo.k, .bool x.lo.n, .int .u64 x.lo.m, .int .i64 x.lo.e, .int .i64 x.hi.k, .bool x.hi.n, .int .u64 x.hi.m, .int .i64 x.hi.e] (Blk.new w4 _ _) rfl rfl (by kernel_rfl) rfl (by simp [Value.oneCell']) ?_; intro W5 Y5 G5 hs5; have R5 := (R4.alloc _).far' G5 (by omega); have O5 := O4.fresh G5; have HB5 := grown_below2 HB4 G5 (by omega); have hs5' : W5.heap.size = w4.heap.size + 1 := (by rw [hs5] <;> simp); have X5 := (X4.alloc _).grown G5 (by simp <;> omega))
            | (refine wpList_storeG rfl 26 (.tmp 9) (.tmp 31) rfl w6.heap.size _ #[.bool y.emp, .int .i64 y.lo.k, .bool y.lo.n, .int .u64 y.lo.m, .int .i64 y.lo.e, .int .i64 y.hi.k, .bool y.hi.n, .int .u64 y.hi.m, .int .i64 y.hi.e] (Blk.new w6 _ _) rfl rfl (by kernel_rfl) rfl (by simp [Value.oneCell']) ?_; intro W7 Z7 G7 hs7; have R7 := (R6.alloc _).far' G7 (by omega); have O7 := O6.fresh G7; have HB7 := grown_below2 HB6 G7 (by omega); have hs7' : W7.heap.size = w6.heap.size + 1 := (by rw [hs7] <;> simp); have X7 := (X6.alloc _).grown G7 (by simp <;> omega); have Y7 := (Y6.alloc _).grown G7 (by simp <;> omega))
            | (refine wpList_storeG rfl 26 (.tmp 10) (.tmp 33) rfl w8.heap.size _ #[.bool z.emp, .int .i64 z.lo.k, .bool z.lo.n, .int .u64 z.lo.m, .int .i64 z.lo.e, .int .i64 z.hi.k, .bool z.hi.n, .int .u64 z.hi.m, .int .i64 z.hi.e] (Blk.new w8 _ _) rfl rfl (by kernel_rfl) rfl (by simp [Value.oneCell']) ?_; intro W10 V10 G10 hs10; have R10 := (R8.alloc _).far' G10 (by omega); have O10 := O8.fresh G10; have HB10 := grown_below2 HB8 G10 (by omega); have hs10' : W10.heap.size = w8.heap.size + 1 := (by rw [hs10] <;> simp); have X10 := (X8.alloc _).grown G10 (by simp <;> omega); have Y10 := (Y8.alloc _).grown G10 (by simp <;> omega); have Z10 := (Z8.alloc _).grown G10 (by simp <;> omega); rw [Hbb.out] at R10; obtain ⟨q1, q2⟩ := R10.cbad)
            | (refine wpList_load_row rfl 24 (.tmp 7) rfl w2.heap.size rfl 24 _ (0, 0) _ X10 Try.underlying24 rfl (by kernel_rfl) ?_)
            | (refine wpList_load_row rfl 26 (.tmp 8) rfl w4.heap.size rfl 26 _ (0, 0) _ Y10 Try.underlying26 rfl (by kernel_rfl) ?_)
            | (refine wpList_load_row rfl 26 (.tmp 9) rfl w6.heap.size rfl 26 _ (0, 0) _ Z10 Try.underlying26 rfl (by kernel_rfl) ?_)
            | (refine wpList_load_row rfl 26 (.tmp 10) rfl w8.heap.size rfl 26 _ (0, 0) _ V10 Try.underlying26 rfl (by kernel_rfl) ?_)
            | (refine wpList_lit1O rfl (.tmp 48) rfl ⟨m, t, x, y, z⟩ rfl ?_)
            | (at_builtin; refine wpList_appO rfl (.tmp 42) (.tmp 49) rfl (w.heap.size + 1) _ l rfl (O10.call ((Below.refl _ _).alloc (Nat.le_refl _) _)) (W10.heap.size + 1) W10.heap.size 0 1 1 [⟨m, t, x, y, z⟩] rfl (SlO.lit1 (Blk.new W10 _ _) (Nat.lt_succ_self _)) (by have := Hl.out.1; simp; omega) (by simp <;> omega) ?_; intro v12 w12 O12 G12; have hs12 := G12.size))
          have hd : decO bs = ([], 2) := by rw [← Hdec.out]; rfl
          go_ret2
          rw [hd]
          exact ⟨none, 0, rfl, ⟨rfl, fun h => absurd h (by simp)⟩, HB10⟩
end Go.Proofs.Ytakajahogjeiaab.Wk
