/- Walk: pelorusref23.DecodeTube. -/
import Derived.Test.YtakajahogjeiaabDecD
namespace Go.Proofs.Ytakajahogjeiaab.Wk
open Go.RowKit Go.Proofs.Pl Go.Proofs.YtakajahogjeiaabW.PrintLast
set_option linter.unusedSimpArgs false
set_option linter.unusedVariables false

set_option maxRecDepth 100000 in
set_option maxHeartbeats 8000000 in
theorem rdect_calls (A : Option Addr) (n c : Nat) (bs : List Int) (w : World) (hs : SlB w w.heap.size A n bs) (hby : Byt bs) (hc : n ≤ c) (hcm : c ≤ 9223372036854775807) :
    Calls Try.prog 26 #[.slice A n c] w fun e w' => ∃ A' c', e = .returned (.tuple #[.agg (tbCells (decT bs).s (decT bs).i (.slice A' (decT bs).l.length c')).toArray, .int .i64 (decTE bs)]) ∧ SlT w' w'.heap.size A' (decT bs).l.length (decT bs).l ∧ Below w.heap.size w w' := by
  obtain ⟨m, hm1, hm2⟩ := tk_one bs
  obtain ⟨s, r1, b1, e1⟩ := ex3' (rdN (dr 1 bs))
  obtain ⟨i, r2, b2, e2⟩ := ex3' (rdI r1)
  have hmr : 0 ≤ m ∧ m < 256 := (hby.tk 1) m (by rw [hm1]; simp)
  obtain ⟨M, rfl⟩ := Int.eq_ofNat_of_zero_le hmr.1
  have hM : M < 256 := by omega
  have hMi : (M : Int) < 256 := by omega
  have hMi0 : 0 ≤ (M : Int) := by omega
  have hmany : tMany bs = M := by unfold tMany; rw [hm2]; omega
  have Htube := Lib.hid (fun l r3 b3 h3 => tube_of (l := l) (r3 := r3) (b3 := b3) e1 e2 h3)
  rw [hmany] at Htube
  obtain ⟨bd, hbd⟩ : ∃ bd, (((false || sh 1 bs) || b1) || b2) = bd := ⟨_, rfl⟩
  have hbd' : ((sh 1 bs || b1) || b2) = bd := by rw [← hbd, Bool.false_or]
  rw [hbd'] at Htube
  have Hbd := Lib.hid hbd
  have BR0 := Blk.new w 34 (tbCells ⟨0, false, 0, 0⟩ ⟨false, ⟨0, false, 0, 0⟩, ⟨0, false, 0, 0⟩⟩ (.slice none 0 0)).toArray
  have HG0 := grown_alloc (World.grownBy.refl w (some (w.heap.size + 1))) (.cells (tbCells ⟨0, false, 0, 0⟩ ⟨false, ⟨0, false, 0, 0⟩, ⟨0, false, 0, 0⟩⟩ (.slice none 0 0)).toArray 34)
  have HB0 := bl_alloc (Below.refl w.heap.size w) (.cells (tbCells ⟨0, false, 0, 0⟩ ⟨false, ⟨0, false, 0, 0⟩, ⟨0, false, 0, 0⟩⟩ (.slice none 0 0)).toArray 34)
  have HN := Lib.hid (fun bad W h => rnum_calls w.heap.size (w.heap.size + 1) (dr 1 bs) bad W h)
  have HI := Lib.hid (fun bad W h => riv_calls w.heap.size (w.heap.size + 1) r1 bad W h)
  have HT := Lib.hid (fun W h => number1_calls w.heap.size (w.heap.size + 1) bs false W h)
  rw [e1] at HN
  rw [e2] at HI
  rw [hm2] at HT
  dsimp only at HN HI
  have X1 := Blk.new1 w (.cells (tbCells ⟨0, false, 0, 0⟩ ⟨false, ⟨0, false, 0, 0⟩, ⟨0, false, 0, 0⟩⟩ (.slice none 0 0)).toArray 34) 98 #[.slice A n c, .bool false]
  have R1 := Rd.made hs hby hc hcm X1 (grown_alloc (grown_alloc (World.grownBy.refl w (some (w.heap.size + 1))) _) _) (Nat.le_succ _)
  have BR1 := BR0.alloc (.cells #[.slice A n c, .bool false] 98)
  have HB1 := bl_alloc HB0 (.cells #[.slice A n c, .bool false] 98)
  have hmlt : (M : Int) < 9223372036854775808 := by omega
  have Hm := Lib.hid (show tk 1 bs = [(M : Int)] ∧ valB (tk 1 bs) = M ∧ tMany bs = M from ⟨hm1, hm2, hmany⟩)
  have hsz : w.heap.size + 1 + 1 ≤ ((w.alloc (.cells (tbCells ⟨0, false, 0, 0⟩ ⟨false, ⟨0, false, 0, 0⟩, ⟨0, false, 0, 0⟩⟩ (.slice none 0 0)).toArray 34)).alloc (.cells #[.slice A n c, .bool false] 98)).heap.size := by simp
  clear hm1 hm2 e1 e2 hmany hbd hbd' hmr hs X1
  go_enter Try.func26, Try.ntmps26
  go_wp2_with (first
    | (go_at_call 76; ((refine (HT.out _ R1).mono ?_); rintro e w2 ⟨rfl, R2, G2⟩; have BR2 := BR1.grown G2 (by simp); have HB2 := grown_below HB1 G2 (by omega) (Nat.le_succ _); have hs2 := Nat.le_trans hsz G2.size; clear hsz))
    | (refine wpList_storeG rfl 34 (.tmp 6) (.tmp 16) rfl w2.heap.size _ (tbCells ⟨0, false, 0, 0⟩ ⟨false, ⟨0, false, 0, 0⟩, ⟨0, false, 0, 0⟩⟩ (.slice none 0 0)).toArray (Blk.new w2 _ _) rfl rfl (by kernel_rfl) rfl (tb_one _ _ _ _ _) ?_; intro W3 X3 G3 hs3; have R3 := (R2.alloc _).far' G3 (by omega); have BR3 := (BR2.alloc _).grown G3 (by simp <;> omega); have HB3 := grown_below2 HB2 G3 (by omega); have hs3' : W3.heap.size = w2.heap.size + 1 := (by rw [hs3] <;> simp))
    | (go_at_call 77; ((with_reducible refine (HN.out _ _ R3).mono ?_); rintro e w4 ⟨rfl, R4, G4⟩; have X4 := X3.grown G4 (by simp <;> omega); have BR4 := BR3.grown G4 (by simp); have HB4 := grown_below HB3 G4 (by omega) (Nat.le_succ _); have hs4 := G4.size))
    | (refine wpList_storeM rfl 24 (.tmp 19) (.tmp 18) rfl w2.heap.size 0 _ _ #[.int .i64 s.k, .bool s.n, .int .u64 s.m, .int .i64 s.e] (tbCells s ⟨false, ⟨0, false, 0, 0⟩, ⟨0, false, 0, 0⟩⟩ (.slice none 0 0)).toArray X4 rfl rfl (by kernel_rfl) (by rw [tb_size]; simp) (by simp [Value.oneCell']) (putTs _ _ _ _) ?_; intro W5 X5 G5 hs5; have R5 := R4.far' G5 (by omega); have BR5 := BR4.grown G5 (by simp <;> omega); have HB5 := grown_below HB4 G5 (by omega) (by omega))
    | (go_at_call 78; ((with_reducible refine (HI.out _ _ R5).mono ?_); rintro e w6 ⟨rfl, R6, G6⟩; have X6 := X5.grown G6 (by simp <;> omega); have BR6 := BR5.grown G6 (by simp); have HB6 := grown_below HB5 G6 (by omega) (Nat.le_succ _); have hs6 := G6.size))
    | (refine wpList_storeM rfl 26 (.tmp 22) (.tmp 21) rfl w2.heap.size 4 _ _ #[.bool i.emp, .int .i64 i.lo.k, .bool i.lo.n, .int .u64 i.lo.m, .int .i64 i.lo.e, .int .i64 i.hi.k, .bool i.hi.n, .int .u64 i.hi.m, .int .i64 i.hi.e] (tbCells s i (.slice none 0 0)).toArray X6 rfl rfl (by kernel_rfl) (by rw [tb_size]; simp) (by simp [Value.oneCell']) (putTi _ _ _ _) ?_; intro W7 X7 G7 hs7; have R7 := R6.far' G7 (by omega); have BR7 := BR6.grown G7 (by simp <;> omega); have HB7 := grown_below HB6 G7 (by omega) (by omega); rw [Hbd.out] at R7))
  have hgt : w.heap.size + 1 < w2.heap.size := by omega
  go_loopw [7, 8] (fun j _ wr => ∃ (k : Nat) (l : List Slc) (r3 : List Int) (b3 : Bool) (v : Value), k ≤ M ∧ j = .int .i64 k ∧ rdSs r2 k = (l, r3, b3) ∧ Rd wr w.heap.size (w.heap.size + 1) r3 (bd || b3) ∧ Blk wr w2.heap.size 34 (tbCells s i v).toArray ∧ OwnS wr (w2.heap.size + 1) v l ∧ Blk wr w.heap.size 34 (tbCells ⟨0, false, 0, 0⟩ ⟨false, ⟨0, false, 0, 0⟩, ⟨0, false, 0, 0⟩⟩ (.slice none 0 0)).toArray ∧ Below w.heap.size w wr) (fun j _ _ => M - (intOf j).toNat)
  case atStart => exact ⟨0, [], r2, false, _, Nat.zero_le _, rfl, by rw [rdSs], by simpa using R7, X7, OwnS.nil _ _, BR7, HB7⟩
  case round =>
    obtain ⟨k, l, r3, b3, v, hk, rfl, hrd, R, X, O, BR, HB⟩ := hrel
    obtain ⟨A', c', rfl, S⟩ := O.sl
    have hll : l.length = k := by have := rdSs_length r2 k; rw [hrd] at this; exact this
    have hgl := X.lt
    by_cases hgo : k < M ∧ (bd || b3) = false
    · obtain ⟨hlt, hbf⟩ := hgo
      obtain ⟨e, q1, c1, e1⟩ := ex3' (rdN r3)
      obtain ⟨a, q2, c2, e2⟩ := ex3' (rdI q1)
      obtain ⟨o, q3, c3, e3⟩ := ex3' (rdI q2)
      have hsu := rdSs_succ hrd (rdS_of e1 e2 e3)
      have HN := Lib.hid (fun bad W h => rnum_calls w.heap.size (w.heap.size + 1) r3 bad W h)
      have HI1 := Lib.hid (fun bad W h => riv_calls w.heap.size (w.heap.size + 1) q1 bad W h)
      have HI2 := Lib.hid (fun bad W h => riv_calls w.heap.size (w.heap.size + 1) q2 bad W h)
      rw [e1] at HN
      rw [e2] at HI1
      rw [e3] at HI2
      dsimp only at HN HI1 HI2
      have Hsu := Lib.hid hsu
      have Hob := Lib.hid O.past
      have Hll := Lib.hid hll
      have Hbf := Lib.hid hbf
      have hlti : (k : Int) < (M : Int) := by omega
      have Rf : Rd wr w.heap.size (w.heap.size + 1) r3 false := by rw [← hbf]; exact R
      obtain ⟨⟨A2, c2', q0⟩, qb⟩ := Rf.c0
      have hwp : w.heap.size + 1 < wr.heap.size := R.lt
      clear hsu e1 e2 e3 hrd hll R hbf q0
      go_wp2_with (first
        | (refine wpList_storeG rfl 88 (.tmp 8) (.tmp 35) rfl wr.heap.size _ (slcCells ⟨⟨0, false, 0, 0⟩, ⟨false, ⟨0, false, 0, 0⟩, ⟨0, false, 0, 0⟩⟩, ⟨false, ⟨0, false, 0, 0⟩, ⟨0, false, 0, 0⟩⟩⟩).toArray (Blk.new wr _ _) rfl rfl (by kernel_rfl) rfl (slc_one _) ?_; intro W1 Y1 G1 hs1; have R1 := (Rf.alloc _).far' G1 hwp; have X1 := (X.alloc _).grown G1 (by simp <;> omega); have O1 := O.fresh G1; have BR1 := (BR.alloc _).grown G1 (by simp <;> omega); have HB1 := grown_below2 HB G1 (by omega); have hs1' : W1.heap.size = wr.heap.size + 1 := (by rw [hs1] <;> simp); clear qb)
        | (go_at_call 77; ((with_reducible refine (HN.out _ _ R1).mono ?_); rintro e' u2 ⟨rfl, R2, G2⟩; have Y2 := Y1.grown G2 (by simp <;> omega); have X2 := X1.grown G2 (by simp <;> omega); have O2 := O1.far G2 (Or.inl (by omega)); have BR2 := BR1.grown G2 (by simp); have HB2 := grown_below HB1 G2 (by omega) (Nat.le_succ _); have hs2 := G2.size))
        | (refine wpList_storeM rfl 24 (.tmp 38) (.tmp 37) rfl wr.heap.size 0 _ _ #[.int .i64 e.k, .bool e.n, .int .u64 e.m, .int .i64 e.e] (slcCells ⟨e, ⟨false, ⟨0, false, 0, 0⟩, ⟨0, false, 0, 0⟩⟩, ⟨false, ⟨0, false, 0, 0⟩, ⟨0, false, 0, 0⟩⟩⟩).toArray Y2 rfl rfl (by kernel_rfl) (by rw [slc_size]; simp) (by simp [Value.oneCell']) (putSe _ _ _ _) ?_; intro W3 Y3 G3 hs3; have R3 := R2.far' G3 hwp; have X3 := X2.grown G3 (by simp <;> omega); have O3 := O2.farN G3 (Hob.out _ (by omega)); have BR3 := BR2.grown G3 (by simp <;> omega); have HB3 := grown_below HB2 G3 (by omega) (by omega))
        | (go_at_call 78; first
          | ((with_reducible refine (HI1.out _ _ R3).mono ?_); rintro e' u4 ⟨rfl, R4, G4⟩; have Y4 := Y3.grown G4 (by simp <;> omega); have X4 := X3.grown G4 (by simp <;> omega); have O4 := O3.far G4 (Or.inl (by omega)); have BR4 := BR3.grown G4 (by simp); have HB4 := grown_below HB3 G4 (by omega) (Nat.le_succ _); have hs4 := G4.size)
          | ((with_reducible refine (HI2.out _ _ R5).mono ?_); rintro e' u6 ⟨rfl, R6, G6⟩; have Y6 := Y5.grown G6 (by simp <;> omega); have X6 := X5.grown G6 (by simp <;> omega); have O6 := O5.far G6 (Or.inl (by omega)); have BR6 := BR5.grown G6 (by simp); have HB6 := grown_below HB5 G6 (by omega) (Nat.le_succ _); have hs6 := G6.size))
        | (refine wpList_storeM rfl 26 (.tmp 41) (.tmp 40) rfl wr.heap.size 4 _ _ #[.bool a.emp, .int .i64 a.lo.k, .bool a.lo.n, .int .u64 a.lo.m, .int .i64 a.lo.e, .int .i64 a.hi.k, .bool a.hi.n, .int .u64 a.hi.m, .int .i64 a.hi.e] (slcCells ⟨e, a, ⟨false, ⟨0, false, 0, 0⟩, ⟨0, false, 0, 0⟩⟩⟩).toArray Y4 rfl rfl (by kernel_rfl) (by rw [slc_size]; simp) (by simp [Value.oneCell']) (putSa _ _ _ _) ?_; intro W5 Y5 G5 hs5; have R5 := R4.far' G5 hwp; have X5 := X4.grown G5 (by simp <;> omega); have O5 := O4.farN G5 (Hob.out _ (by omega)); have BR5 := BR4.grown G5 (by simp <;> omega); have HB5 := grown_below HB4 G5 (by omega) (by omega))
        | (refine wpList_storeM rfl 26 (.tmp 44) (.tmp 43) rfl wr.heap.size 13 _ _ #[.bool o.emp, .int .i64 o.lo.k, .bool o.lo.n, .int .u64 o.lo.m, .int .i64 o.lo.e, .int .i64 o.hi.k, .bool o.hi.n, .int .u64 o.hi.m, .int .i64 o.hi.e] (slcCells ⟨e, a, o⟩).toArray Y6 rfl rfl (by kernel_rfl) (by rw [slc_size]; simp) (by simp [Value.oneCell']) (putSo _ _ _ _) ?_; intro W7 Y7 G7 hs7; have R7 := R6.far' G7 hwp; have X7 := X6.grown G7 (by simp <;> omega); have O7 := O6.farN G7 (Hob.out _ (by omega)); have BR7 := BR6.grown G7 (by simp <;> omega); have HB7 := grown_below HB6 G7 (by omega) (by omega); have t13 := X7.tb13)
        | (refine wpList_load_row rfl 88 (.tmp 8) rfl wr.heap.size rfl 88 (slcCells ⟨e, a, o⟩).toArray (0, 0) _ Y7 Try.underlying88 rfl (by kernel_rfl) ?_)
        | (refine wpList_lit1S rfl (.tmp 47) rfl ⟨e, a, o⟩ rfl ?_)
        | (at_builtin; refine wpList_appS rfl (.tmp 46) (.tmp 48) rfl (w2.heap.size + 1) _ l rfl (O7.call ((Below.refl _ _).alloc (Nat.le_refl _) _)) (W7.heap.size + 1) W7.heap.size 0 1 1 [⟨e, a, o⟩] rfl (SlT.lit1 (Blk.new W7 _ _) (Nat.lt_succ_self _)) (by have := Hll.out; simp <;> omega) (by simp <;> omega) ?_; intro v8 u8 O8 G8; obtain ⟨A9, c9, rfl, S9⟩ := O8.sl; have hs8 := G8.size; have hol := O7.lt; have X8 := (X7.alloc _).grown G8 (by intro e; have := hol _ e.symm; omega); have BR8 := (BR7.alloc _).grown G8 (by intro e; have := hol _ e.symm; omega); have R8 := (R7.alloc _).app G8 (by intro e; have := hol _ e; omega) (fun k e => by have := hol k e; omega); have HB8 := (HB7.alloc (by omega) _).grown G8 (by simp <;> omega) (fun k e => by have := hol k e; omega); have t13 := X8.tb13; have f13 := X8.frozen 13; clear hol))
      have G9 := grown_set u8 w2.heap.size 13 (.slice A9 (l.length + 1) c9)
      have X9 := X8.set_ 13 (.slice A9 (l.length + 1) c9)
      rw [putTv] at X9
      have R9 := R8.far' G9 hgt
      rw [List.length_append, List.length_singleton] at O8
      have O9 := O8.far G9 (Or.inl (Nat.lt_succ_self _))
      have hbf2 : bd = false ∧ b3 = false := by have := Hbf.out; simpa using this
      obtain ⟨rfl, rfl⟩ := hbf2
      refine ⟨⟨k + 1, l ++ [⟨e, a, o⟩], q3, _, _, by omega, by go_num, Hsu.out, by simpa [Bool.or_assoc] using R9, X9, O9, BR8.grown G9 (by simp <;> omega), grown_below HB8 G9 HB8.size (by omega)⟩, by simp [intOf] <;> omega⟩
    · have hex : (bd || b3) = true ∨ ((bd || b3) = false ∧ k = M) := by
        cases hb : (bd || b3)
        · right; exact ⟨rfl, by have : ¬ k < M := fun h => hgo ⟨h, hb⟩; omega⟩
        · left; rfl
      obtain ⟨⟨A2, c2, q0⟩, q1⟩ := R.c0
      have HMy := Lib.hid (r17mayX s i A' l.length c' l wr S)
      have hwp : w.heap.size + 1 < wr.heap.size := R.lt
      rcases hex with hbt | ⟨hbf, rfl⟩
      · have hno : tOk bs = false := by
          obtain ⟨l', r', b', h'⟩ := ex3' (rdSs r2 M)
          have hbad : (bd || b') = true := by
            cases hbd0 : bd
            · rw [hbd0, Bool.false_or] at hbt
              have h1 : (rdSs r2 k).2.2 = true := by rw [hrd]; exact hbt
              have h2 := rdSs_bad r2 k h1 (M - k)
              rw [show k + (M - k) = M from by omega, h'] at h2
              simpa using h2
            · simp
          rw [(Htube.out l' r' b' h').2, hbad]
          rfl
        obtain ⟨hd1, hd2⟩ := dec_no hno
        rw [hbt] at q1
        generalize mayT ⟨s, i, l⟩ = my at HMy
        generalize r3.length = nr at q0
        have hkM2 : k < M ∨ k = M := by omega
        clear hgo hrd hno hll
        rcases hkM2 with hkl | rfl
        · have hki : (k : Int) < (M : Int) := by omega
          go_wp2_with (first
            | (refine wpList_loadTbG (by rfl) (.tmp 6) rfl w2.heap.size rfl s i _ X ?_)
            | (go_at_call 79; (with_reducible refine HMy.out.mono ?_); rintro e' u1 ⟨rfl, hb⟩; have BR1 := BR.call hb; have HB1 := HB.trans (hb.mono (by omega)); have hs1 := hb.size; have q0' := (hb.cell (p := ⟨w.heap.size + 1, 0, none⟩) hwp).trans q0; have q1' := (hb.cell (p := ⟨w.heap.size + 1, 1, none⟩) hwp).trans q1; clear hb q0 q1)
            | (refine wpList_storeG rfl 34 (.tmp 2) (.tmp 69) rfl w.heap.size _ (tbCells ⟨0, false, 0, 0⟩ ⟨false, ⟨0, false, 0, 0⟩, ⟨0, false, 0, 0⟩⟩ (.slice none 0 0)).toArray BR1 rfl rfl (by kernel_rfl) rfl (tb_one _ _ _ _ _) ?_; intro W9 B9 G9 hs9; have HB9 := grown_below HB1 G9 (by omega) (Nat.le_refl _)))
          all_goals refine bodyPost_ret (results_cell_tmp rfl _ _ w.heap.size _ rfl B9 rfl) rfl ?_
          all_goals rw [hd1, hd2]
          all_goals exact ⟨none, 0, rfl, ⟨rfl, fun h => absurd h (by simp [zeroT])⟩, HB9⟩
        · go_wp2_with (first
            | (refine wpList_loadTbG (by rfl) (.tmp 6) rfl w2.heap.size rfl s i _ X ?_)
            | (go_at_call 79; (with_reducible refine HMy.out.mono ?_); rintro e' u1 ⟨rfl, hb⟩; have BR1 := BR.call hb; have HB1 := HB.trans (hb.mono (by omega)); have hs1 := hb.size; have q0' := (hb.cell (p := ⟨w.heap.size + 1, 0, none⟩) hwp).trans q0; have q1' := (hb.cell (p := ⟨w.heap.size + 1, 1, none⟩) hwp).trans q1; clear hb q0 q1)
            | (refine wpList_storeG rfl 34 (.tmp 2) (.tmp 69) rfl w.heap.size _ (tbCells ⟨0, false, 0, 0⟩ ⟨false, ⟨0, false, 0, 0⟩, ⟨0, false, 0, 0⟩⟩ (.slice none 0 0)).toArray BR1 rfl rfl (by kernel_rfl) rfl (tb_one _ _ _ _ _) ?_; intro W9 B9 G9 hs9; have HB9 := grown_below HB1 G9 (by omega) (Nat.le_refl _)))
          all_goals refine bodyPost_ret (results_cell_tmp rfl _ _ w.heap.size _ rfl B9 rfl) rfl ?_
          all_goals rw [hd1, hd2]
          all_goals exact ⟨none, 0, rfl, ⟨rfl, fun h => absurd h (by simp [zeroT])⟩, HB9⟩
      · obtain ⟨ht1, ht2⟩ := Htube.out l r3 b3 hrd
        rw [hbf] at q1 ht2
        generalize mayT ⟨s, i, l⟩ = my at HMy ht2
        have Ht1 := Lib.hid ht1
        have Ht2 := Lib.hid ht2
        clear ht1 ht2 hrd hll hgo
        by_cases hr : r3 = []
        · subst hr
          rw [List.length_nil] at q0
          cases my
          · obtain ⟨hd1, hd2⟩ := dec_no (bs := bs) (by rw [Ht2.out]; rfl)
            go_wp2_with (first
              | (refine wpList_loadTbG (by rfl) (.tmp 6) rfl w2.heap.size rfl s i _ X ?_)
              | (go_at_call 79; (with_reducible refine HMy.out.mono ?_); rintro e' u1 ⟨rfl, hb⟩; have BR1 := BR.call hb; have HB1 := HB.trans (hb.mono (by omega)); have hs1 := hb.size; have q0' := (hb.cell (p := ⟨w.heap.size + 1, 0, none⟩) hwp).trans q0; have q1' := (hb.cell (p := ⟨w.heap.size + 1, 1, none⟩) hwp).trans q1; clear hb q0 q1)
              | (refine wpList_storeG rfl 34 (.tmp 2) (.tmp 69) rfl w.heap.size _ (tbCells ⟨0, false, 0, 0⟩ ⟨false, ⟨0, false, 0, 0⟩, ⟨0, false, 0, 0⟩⟩ (.slice none 0 0)).toArray BR1 rfl rfl (by kernel_rfl) rfl (tb_one _ _ _ _ _) ?_; intro W9 B9 G9 hs9; have HB9 := grown_below HB1 G9 (by omega) (Nat.le_refl _)))
            all_goals refine bodyPost_ret (results_cell_tmp rfl _ _ w.heap.size _ rfl B9 rfl) rfl ?_
            all_goals rw [hd1, hd2]
            all_goals exact ⟨none, 0, rfl, ⟨rfl, fun h => absurd h (by simp [zeroT])⟩, HB9⟩
          · obtain ⟨hd1, hd2⟩ := dec_ok (bs := bs) Ht1.out (by rw [Ht2.out]; rfl)
            go_wp2_with (first
              | (refine wpList_loadTbG (by rfl) (.tmp 6) rfl w2.heap.size rfl s i _ X ?_)
              | (go_at_call 79; (with_reducible refine HMy.out.mono ?_); rintro e' u1 ⟨rfl, hb⟩; have BR1 := BR.call hb; have X1 := X.call hb; have O1 := O.call hb; have HB1 := HB.trans (hb.mono (by omega)); have hs1 := hb.size; obtain ⟨⟨A2', c2', q0'⟩, q1'⟩ := (R.below hb).c0; rw [hbf] at q1'; rw [List.length_nil] at q0'; clear hb q0 q1)
              | (refine wpList_loadTbG (by rfl) (.tmp 6) rfl w2.heap.size rfl s i _ X1 ?_)
              | (refine wpList_storeG rfl 34 (.tmp 2) (.tmp 70) rfl w.heap.size _ (tbCells s i (.slice A' l.length c')).toArray BR1 rfl rfl (by kernel_rfl) rfl (tb_one _ _ _ _ _) ?_; intro W9 B9 G9 hs9; have HB9 := grown_below HB1 G9 (by omega) (Nat.le_refl _); have O9 := O1.far G9 (Or.inl (by omega))))
            refine bodyPost_ret (results_cell_tmp rfl _ _ w.heap.size _ rfl B9 rfl) rfl ?_
            rw [hd1, hd2]
            obtain ⟨A3, c3, hv, S3⟩ := O9.sl
            cases hv
            exact ⟨_, _, rfl, S3, HB9⟩
        · obtain ⟨hd1, hd2⟩ := dec_no (bs := bs) (by rw [Ht2.out]; cases r3 with | nil => exact absurd rfl hr | cons x y => rfl)
          have hnb : (0 : Int) < (r3.length : Int) := by have := List.length_pos_iff.2 hr; omega
          go_wp2_with (first
            | (refine wpList_loadTbG (by rfl) (.tmp 6) rfl w2.heap.size rfl s i _ X ?_)
            | (go_at_call 79; (with_reducible refine HMy.out.mono ?_); rintro e' u1 ⟨rfl, hb⟩; have BR1 := BR.call hb; have HB1 := HB.trans (hb.mono (by omega)); have hs1 := hb.size; obtain ⟨⟨A2', c2', q0'⟩, q1'⟩ := (R.below hb).c0; rw [hbf] at q1'; clear hb q0 q1)
            | (refine wpList_storeG rfl 34 (.tmp 2) (.tmp 69) rfl w.heap.size _ (tbCells ⟨0, false, 0, 0⟩ ⟨false, ⟨0, false, 0, 0⟩, ⟨0, false, 0, 0⟩⟩ (.slice none 0 0)).toArray BR1 rfl rfl (by kernel_rfl) rfl (tb_one _ _ _ _ _) ?_; intro W9 B9 G9 hs9; have HB9 := grown_below HB1 G9 (by omega) (Nat.le_refl _)))
          all_goals refine bodyPost_ret (results_cell_tmp rfl _ _ w.heap.size _ rfl B9 rfl) rfl ?_
          all_goals rw [hd1, hd2]
          all_goals exact ⟨none, 0, rfl, ⟨rfl, fun h => absurd h (by simp [zeroT])⟩, HB9⟩
end Go.Proofs.Ytakajahogjeiaab.Wk
