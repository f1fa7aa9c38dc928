/- Walk: codec.DecodeTube. -/
import Derived.Test.YtakajahogjeiaabDecC
namespace Go.Proofs.Ytakajahogjeiaab.Wk
open Go.RowKit Go.Proofs.Pl Go.Proofs.YtakajahogjeiaabW.PrintLast
set_option linter.unusedSimpArgs false
set_option linter.unusedVariables false

theorem results_cell_tmp {fn : Func} {p q : Tmp} (h : fn.results = #[.cell p 34, .tmp q]) (tmps : Array Value) (w : World) (g : Nat) (cs : Array Value) (hp : tmps.getD p undef = .pointer (some ⟨g, 0, none⟩)) (hg : Blk w g 34 cs) (hs : cs.size = 14) :
    (results fn tmps).run Try.prog w = .ok (.tuple #[.agg cs, tmps.getD q undef]) w := by
  have hp' : tmps[p]?.getD undef = .pointer (some ⟨g, 0, none⟩) := by simpa using hp
  have hi : (Try.prog.info? 34).map (·.size) = some cs.size := by rw [hs]; kernel_rfl
  simp [results, h, hp', asAddr, run_loadVar_row w g 34 34 cs (0, 0) _ hg Try.underlying34 rfl hi]
theorem tb_size (s : Num) (i : Iv) (v : Value) : (tbCells s i v).toArray.size = 14 := rfl
theorem tb_one (s : Num) (i : Iv) (A : Option Addr) (n c : Nat) : (tbCells s i (.slice A n c)).toArray.all (·.oneCell') = true := by simp [tbCells, Value.oneCell']
theorem Blk.tb13 {w : World} {g : Nat} {t : TypeId} {s : Num} {i : Iv} {v : Value} (h : Blk w g t (tbCells s i v).toArray) : w.cell? ⟨g, 13, none⟩ = some v := h.cell 13
theorem slc_size (x : Slc) : (slcCells x).toArray.size = 22 := rfl
theorem tmayX (s : Num) (i : Iv) (A : Option Addr) (n c : Nat) (xs : List Slc) (w : World) (hs : SlT w w.heap.size A n xs) :
    Calls Try.prog 69 #[.agg (tbCells s i (.slice A n c)).toArray] w fun e w' => e = .returned (.bool (mayT ⟨s, i, xs⟩)) ∧ Below w.heap.size w w' := by
  obtain ⟨s0, s1, s2, s3⟩ := s
  obtain ⟨i0, ⟨i1, i2, i3, i4⟩, ⟨i5, i6, i7, i8⟩⟩ := i
  exact tmay_calls s0 s1 s2 s3 i0 i1 i2 i3 i4 i5 i6 i7 i8 A n c xs w hs
theorem r17mayX (s : Num) (i : Iv) (A : Option Addr) (n c : Nat) (xs : List Slc) (w : World) (hs : SlT w w.heap.size A n xs) :
    Calls Try.prog 79 #[.agg (tbCells s i (.slice A n c)).toArray] w fun e w' => e = .returned (.bool (mayT ⟨s, i, xs⟩)) ∧ Below w.heap.size w w' := by
  obtain ⟨s0, s1, s2, s3⟩ := s
  obtain ⟨i0, ⟨i1, i2, i3, i4⟩, ⟨i5, i6, i7, i8⟩⟩ := i
  exact r17may_calls s0 s1 s2 s3 i0 i1 i2 i3 i4 i5 i6 i7 i8 A n c xs w hs
theorem tube_of {bs r1 r2 r3 : List Int} {s : Num} {i : Iv} {l : List Slc} {b1 b2 b3 : Bool} (h1 : rdN (dr 1 bs) = (s, r1, b1)) (h2 : rdI r1 = (i, r2, b2)) (h3 : rdSs r2 (tMany bs) = (l, r3, b3)) :
    tAll bs = ⟨s, i, l⟩ ∧ tOk bs = (!((((sh 1 bs || b1) || b2) || b3)) && r3.isEmpty && mayT ⟨s, i, l⟩) := by
  have c1 : tStart bs = s := by unfold tStart; rw [h1]
  have c2 : tIn bs = i := by unfold tIn; rw [h1]; dsimp only; rw [h2]
  have c3 : tRest bs = r2 := by unfold tRest; rw [h1]; dsimp only; rw [h2]
  have c5 : tBad bs = ((sh 1 bs || b1) || b2) := by unfold tBad; rw [h1]; dsimp only; rw [h2]
  have c6 : tAll bs = ⟨s, i, l⟩ := by unfold tAll; rw [c1, c2, c3, h3]
  refine ⟨c6, ?_⟩
  unfold tOk tBads tEnd
  rw [c6, c3, h3, c5]
theorem dec_ok {bs : List Int} {t : Tb} (h1 : tAll bs = t) (h2 : tOk bs = true) : decT bs = t ∧ decTE bs = 0 := by
  unfold decT decTE
  rw [if_pos h2, if_pos h2]
  exact ⟨h1, rfl⟩
theorem dec_no {bs : List Int} (h2 : tOk bs = false) : decT bs = zeroT ∧ decTE bs = 2 := by
  unfold decT decTE
  rw [h2]
  exact ⟨rfl, rfl⟩
set_option maxRecDepth 100000 in
set_option maxHeartbeats 8000000 in
theorem dect_calls (A : Option Addr) (n c : Nat) (bs : List Int) (w : World) (hs : SlB w w.heap.size A n bs) (hby : Byt bs) (hc : n ≤ c) (hcm : c ≤ 9223372036854775807) :
    Calls Try.prog 23 #[.slice A n c] w fun e w' => ∃ A' c', e = .returned (.tuple #[.agg (tbCells (decT bs).s (decT bs).i (.slice A' (decT bs).l.length c')).toArray, .int .i64 (decTE bs)]) ∧ SlT w' w'.heap.size A' (decT bs).l.length (decT bs).l ∧ Below w.heap.size w w' := by
  obtain ⟨m, hm1, hm2⟩ := tk_one bs
  obtain ⟨s, r1, b1, e1⟩ := ex3' (rdN (dr 1 bs))
  obtain ⟨i, r2, b2, e2⟩ := ex3' (rdI r1)
  have hmr : 0 ≤ m ∧ m < 256 := (hby.tk 1) m (by rw [hm1]; simp)
  obtain ⟨M, rfl⟩ := Int.eq_ofNat_of_zero_le hmr.1
  have hM : M < 256 := by omega
  have hMi : (M : Int) < 256 := by omega
  have hMi0 : 0 ≤ (M : Int) := by omega
  have hmany : tMany bs = M := by unfold tMany; rw [hm2]; omega
  have Htube := Lib.hid (fun l r3 b3 h3 => tube_of (l := l) (r3 := r3) (b3 := b3) e1 e2 h3)
  rw [hmany] at Htube
  obtain ⟨bd, hbd⟩ : ∃ bd, (((false || sh 1 bs) || b1) || b2) = bd := ⟨_, rfl⟩
  have hbd' : ((sh 1 bs || b1) || b2) = bd := by rw [← hbd, Bool.false_or]
  rw [hbd'] at Htube
  have Hbd := Lib.hid hbd
  have BR0 := Blk.new w 34 (tbCells ⟨0, false, 0, 0⟩ ⟨false, ⟨0, false, 0, 0⟩, ⟨0, false, 0, 0⟩⟩ (.slice none 0 0)).toArray
  have HG0 := grown_alloc (World.grownBy.refl w (some (w.heap.size + 1))) (.cells (tbCells ⟨0, false, 0, 0⟩ ⟨false, ⟨0, false, 0, 0⟩, ⟨0, false, 0, 0⟩⟩ (.slice none 0 0)).toArray 34)
  have HB0 := bl_alloc (Below.refl w.heap.size w) (.cells (tbCells ⟨0, false, 0, 0⟩ ⟨false, ⟨0, false, 0, 0⟩, ⟨0, false, 0, 0⟩⟩ (.slice none 0 0)).toArray 34)
  have HN := Lib.hid (fun bad W h => cnum_calls w.heap.size (w.heap.size + 1) (dr 1 bs) bad W h)
  have HI := Lib.hid (fun bad W h => civ_calls w.heap.size (w.heap.size + 1) r1 bad W h)
  have HT := Lib.hid (fun W h => take1_calls w.heap.size (w.heap.size + 1) bs false M hm1 W h)
  rw [e1] at HN
  rw [e2] at HI
  dsimp only at HN HI
  have Hs := Lib.hid hs
  have Hm := Lib.hid (show tk 1 bs = [(M : Int)] ∧ valB (tk 1 bs) = M ∧ tMany bs = M from ⟨hm1, hm2, hmany⟩)
  clear hm1 hm2 e1 e2 hmany hbd hbd' hs hmr
  go_enter Try.func23, Try.ntmps23
  go_wp2_with (first
    | (refine wpList_storeG rfl 92 (.tmp 4) (.tmp 10) rfl (w.heap.size + 1) _ #[.slice A n c, .bool false] (Blk.new1 w _ _ _) rfl rfl (by kernel_rfl) rfl (by simp [Value.oneCell']) ?_; intro W1 X1 G1 hs1; have R1 := Rd.made Hs.out hby hc hcm X1 (grown_new (grown_alloc (grown_alloc (World.grownBy.refl w (some (w.heap.size + 1))) _) _) G1 (Nat.le_succ _)) (Nat.le_succ _); have BR1 := (BR0.alloc _).grown G1 (by simp); have HB1 := grown_below (bl_alloc HB0 _) G1 (by simp <;> omega) (Nat.le_succ _); have hs1' : W1.heap.size = w.heap.size + 1 + 1 := (by rw [hs1] <;> simp); clear X1)
    | (go_at_call 72; ((with_reducible refine (HT.out _ R1).mono ?_); rintro e w2 ⟨f1, off1, rfl, hf1, q2, R2, G2⟩; have BR2 := BR1.grown G2 (by simp); have HB2 := grown_below HB1 G2 (by omega) (Nat.le_succ _); have hs2 := G2.size))
    | (go_at_call 73; ((with_reducible refine (HN.out _ _ R2).mono ?_); rintro e w3 ⟨rfl, R3, G3⟩; have BR3 := BR2.grown G3 (by simp); have HB3 := grown_below HB2 G3 (by omega) (Nat.le_succ _); have hs3 := G3.size))
    | (refine wpList_storeG rfl 34 (.tmp 6) (.tmp 17) rfl w3.heap.size _ (tbCells s ⟨false, ⟨0, false, 0, 0⟩, ⟨0, false, 0, 0⟩⟩ (.slice none 0 0)).toArray (Blk.new w3 _ _) rfl rfl (by kernel_rfl) rfl (tb_one _ _ _ _ _) ?_; intro W4 X4 G4 hs4; have R4 := (R3.alloc _).far' G4 (by omega); have BR4 := (BR3.alloc _).grown G4 (by simp <;> omega); have HB4 := grown_below2 HB3 G4 (by omega); have hs4' : W4.heap.size = w3.heap.size + 1 := (by rw [hs4] <;> simp))
    | (go_at_call 74; ((with_reducible refine (HI.out _ _ R4).mono ?_); rintro e w5 ⟨rfl, R5, G5⟩; have X5 := X4.grown G5 (by simp <;> omega); have BR5 := BR4.grown G5 (by simp); have HB5 := grown_below HB4 G5 (by omega) (Nat.le_succ _); have hs5 := G5.size))
    | (refine wpList_storeM rfl 26 (.tmp 19) (.tmp 18) rfl w3.heap.size 4 _ _ #[.bool i.emp, .int .i64 i.lo.k, .bool i.lo.n, .int .u64 i.lo.m, .int .i64 i.lo.e, .int .i64 i.hi.k, .bool i.hi.n, .int .u64 i.hi.m, .int .i64 i.hi.e] (tbCells s i (.slice none 0 0)).toArray X5 rfl rfl (by kernel_rfl) (by rw [tb_size]; simp) (by simp [Value.oneCell']) (putTi _ _ _ _) ?_; intro W6 X6 G6 hs6; have R6 := R5.far' G6 (by omega); have BR6 := BR5.grown G6 (by simp <;> omega); have HB6 := grown_below HB5 G6 (by omega) (by omega); rw [Hbd.out] at R6))
  have hgt : w.heap.size + 1 < w3.heap.size := by omega
  go_loopw [7, 21] (fun _ j wr => ∃ (k : Nat) (l : List Slc) (r3 : List Int) (b3 : Bool) (v : Value), k ≤ M ∧ j = .int .i64 k ∧ rdSs r2 k = (l, r3, b3) ∧ Rd wr w.heap.size (w.heap.size + 1) r3 (bd || b3) ∧ Blk wr w3.heap.size 34 (tbCells s i v).toArray ∧ OwnS wr (w3.heap.size + 1) v l ∧ Blk wr w.heap.size 34 (tbCells ⟨0, false, 0, 0⟩ ⟨false, ⟨0, false, 0, 0⟩, ⟨0, false, 0, 0⟩⟩ (.slice none 0 0)).toArray ∧ Below w.heap.size w wr) (fun _ j _ => M - (intOf j).toNat)
  case atStart => exact ⟨0, [], r2, false, _, Nat.zero_le _, rfl, by rw [rdSs], by simpa using R6, X6, OwnS.nil _ _, BR6, HB6⟩
  case round =>
    obtain ⟨k, l, r3, b3, v, hk, rfl, hrd, R, X, O, BR, HB⟩ := hrel
    obtain ⟨A', c', rfl, S⟩ := O.sl
    have hll : l.length = k := by have := rdSs_length r2 k; rw [hrd] at this; exact this
    have hgl := X.lt
    by_cases hlt : k < M
    · obtain ⟨e, q1, c1, e1⟩ := ex3' (rdN r3)
      obtain ⟨a, q2, c2, e2⟩ := ex3' (rdI q1)
      obtain ⟨o, q3, c3, e3⟩ := ex3' (rdI q2)
      have hsu := rdSs_succ hrd (rdS_of e1 e2 e3)
      have HN := Lib.hid (fun bad W h => cnum_calls w.heap.size (w.heap.size + 1) r3 bad W h)
      have HI1 := Lib.hid (fun bad W h => civ_calls w.heap.size (w.heap.size + 1) q1 bad W h)
      have HI2 := Lib.hid (fun bad W h => civ_calls w.heap.size (w.heap.size + 1) q2 bad W h)
      rw [e1] at HN
      rw [e2] at HI1
      rw [e3] at HI2
      dsimp only at HN HI1 HI2
      have Hsu := Lib.hid hsu
      have Hob := Lib.hid O.past
      have Hll := Lib.hid hll
      have hlti : (k : Int) < (M : Int) := by omega
      clear hsu e1 e2 e3 hrd hll
      go_wp2_with (first
        | (go_at_call 73; ((with_reducible refine (HN.out _ _ R).mono ?_); rintro e' u1 ⟨rfl, R1, G1⟩; have X1 := X.grown G1 (by simp <;> omega); have O1 := O.far G1 (Or.inl (by omega)); have BR1 := BR.grown G1 (by simp); have HB1 := grown_below HB G1 (by omega) (Nat.le_succ _); have hs1 := G1.size))
        | (refine wpList_storeG rfl 88 (.tmp 7) (.tmp 24) rfl u1.heap.size _ (slcCells ⟨e, ⟨false, ⟨0, false, 0, 0⟩, ⟨0, false, 0, 0⟩⟩, ⟨false, ⟨0, false, 0, 0⟩, ⟨0, false, 0, 0⟩⟩⟩).toArray (Blk.new u1 _ _) rfl rfl (by kernel_rfl) rfl (slc_one _) ?_; intro W2 Y2 G2 hs2; have R2 := (R1.alloc _).far' G2 (by omega); have X2 := (X1.alloc _).grown G2 (by simp <;> omega); have O2 := O1.fresh G2; have BR2 := (BR1.alloc _).grown G2 (by simp <;> omega); have HB2 := grown_below2 HB1 G2 (by omega); have hs2' : W2.heap.size = u1.heap.size + 1 := (by rw [hs2] <;> simp))
        | (go_at_call 74; first
          | ((with_reducible refine (HI1.out _ _ R2).mono ?_); rintro e' u3 ⟨rfl, R3, G3⟩; have Y3 := Y2.grown G3 (by simp <;> omega); have X3 := X2.grown G3 (by simp <;> omega); have O3 := O2.far G3 (Or.inl (by omega)); have BR3 := BR2.grown G3 (by simp); have HB3 := grown_below HB2 G3 (by omega) (Nat.le_succ _); have hs3 := G3.size)
          | ((with_reducible refine (HI2.out _ _ R4).mono ?_); rintro e' u5 ⟨rfl, R5, G5⟩; have Y5 := Y4.grown G5 (by simp <;> omega); have X5 := X4.grown G5 (by simp <;> omega); have O5 := O4.far G5 (Or.inl (by omega)); have BR5 := BR4.grown G5 (by simp); have HB5 := grown_below HB4 G5 (by omega) (Nat.le_succ _); have hs5 := G5.size))
        | (refine wpList_storeM rfl 26 (.tmp 26) (.tmp 25) rfl u1.heap.size 4 _ _ #[.bool a.emp, .int .i64 a.lo.k, .bool a.lo.n, .int .u64 a.lo.m, .int .i64 a.lo.e, .int .i64 a.hi.k, .bool a.hi.n, .int .u64 a.hi.m, .int .i64 a.hi.e] (slcCells ⟨e, a, ⟨false, ⟨0, false, 0, 0⟩, ⟨0, false, 0, 0⟩⟩⟩).toArray Y3 rfl rfl (by kernel_rfl) (by rw [slc_size]; simp) (by simp [Value.oneCell']) (putSa _ _ _ _) ?_; intro W4 Y4 G4 hs4; have R4 := R3.far' G4 (by omega); have X4 := X3.grown G4 (by simp <;> omega); have O4 := O3.farN G4 (Hob.out _ (by omega)); have BR4 := BR3.grown G4 (by simp <;> omega); have HB4 := grown_below HB3 G4 (by omega) (by omega))
        | (refine wpList_storeM rfl 26 (.tmp 28) (.tmp 27) rfl u1.heap.size 13 _ _ #[.bool o.emp, .int .i64 o.lo.k, .bool o.lo.n, .int .u64 o.lo.m, .int .i64 o.lo.e, .int .i64 o.hi.k, .bool o.hi.n, .int .u64 o.hi.m, .int .i64 o.hi.e] (slcCells ⟨e, a, o⟩).toArray Y5 rfl rfl (by kernel_rfl) (by rw [slc_size]; simp) (by simp [Value.oneCell']) (putSo _ _ _ _) ?_; intro W6 Y6 G6 hs6; have R6 := R5.far' G6 (by omega); have X6 := X5.grown G6 (by simp <;> omega); have O6 := O5.farN G6 (Hob.out _ (by omega)); have BR6 := BR5.grown G6 (by simp <;> omega); have HB6 := grown_below HB5 G6 (by omega) (by omega); have t13 := X6.tb13)
        | (refine wpList_load_row rfl 88 (.tmp 7) rfl u1.heap.size rfl 88 (slcCells ⟨e, a, o⟩).toArray (0, 0) _ Y6 Try.underlying88 rfl (by kernel_rfl) ?_)
        | (refine wpList_lit1S rfl (.tmp 31) rfl ⟨e, a, o⟩ rfl ?_)
        | (at_builtin; refine wpList_appS rfl (.tmp 30) (.tmp 32) rfl (w3.heap.size + 1) _ l rfl (O6.call ((Below.refl _ _).alloc (Nat.le_refl _) _)) (W6.heap.size + 1) W6.heap.size 0 1 1 [⟨e, a, o⟩] rfl (SlT.lit1 (Blk.new W6 _ _) (Nat.lt_succ_self _)) (by have := Hll.out; simp <;> omega) (by simp <;> omega) ?_; intro v7 u7 O7 G7; obtain ⟨A9, c9, rfl, S9⟩ := O7.sl; have hs7 := G7.size; have hol := O6.lt; have X7 := (X6.alloc _).grown G7 (by intro e; have := hol _ e.symm; omega); have BR7 := (BR6.alloc _).grown G7 (by intro e; have := hol _ e.symm; omega); have R7 := (R6.alloc _).app G7 (by intro e; have := hol _ e; omega) (fun k e => by have := hol k e; omega); have HB7 := (HB6.alloc (by omega) _).grown G7 (by simp <;> omega) (fun k e => by have := hol k e; omega); have t13 := X7.tb13; have f13 := X7.frozen 13; clear hol))
      have G8 := grown_set u7 w3.heap.size 13 (.slice A9 (l.length + 1) c9)
      have X8 := X7.set_ 13 (.slice A9 (l.length + 1) c9)
      rw [putTv] at X8
      have R8 := R7.far' G8 hgt
      rw [List.length_append, List.length_singleton] at O7
      refine ⟨⟨k + 1, l ++ [⟨e, a, o⟩], q3, _, _, by omega, by go_num, Hsu.out, by simpa [Bool.or_assoc] using R8, X8, ?_, BR7.grown G8 (by simp <;> omega), grown_below HB7 G8 HB7.size (by omega)⟩, by simp [intOf] <;> omega⟩
      have O8 := O7.far G8 (Or.inl (Nat.lt_succ_self _))
      exact O8
    · have hkM : k = M := by omega
      subst hkM
      obtain ⟨ht1, ht2⟩ := Htube.out l r3 b3 hrd
      generalize (bd || b3) = bad at R ht2
      obtain ⟨⟨A2, c2, q0⟩, q1⟩ := R.c0
      have HMy := Lib.hid (tmayX s i A' l.length c' l wr S)
      generalize mayT ⟨s, i, l⟩ = my at HMy ht2
      have Ht1 := Lib.hid ht1
      have Ht2 := Lib.hid ht2
      have Hrd := Lib.hid hrd
      clear ht1 ht2 hrd hll
      have hwp : w.heap.size + 1 < wr.heap.size := R.lt
      cases bad
      · by_cases hr : r3 = []
        · subst hr
          rw [List.length_nil] at q0
          cases my
          · obtain ⟨hd1, hd2⟩ := dec_no (bs := bs) (by rw [Ht2.out]; rfl)
            go_wp2_with (first
              | (refine wpList_loadTbG (by rfl) (.tmp 6) rfl w3.heap.size rfl s i _ X ?_)
              | (go_at_call 69; (with_reducible refine HMy.out.mono ?_); rintro e' u1 ⟨rfl, hb⟩; have BR1 := BR.call hb; have HB1 := HB.trans (hb.mono (by omega)); have hs1 := hb.size; clear hb)
              | (refine wpList_storeG rfl 34 (.tmp 2) (.tmp 51) rfl w.heap.size _ (tbCells ⟨0, false, 0, 0⟩ ⟨false, ⟨0, false, 0, 0⟩, ⟨0, false, 0, 0⟩⟩ (.slice none 0 0)).toArray BR1 rfl rfl (by kernel_rfl) rfl (tb_one _ _ _ _ _) ?_; intro W9 B9 G9 hs9; have HB9 := grown_below HB1 G9 (by omega) (Nat.le_refl _)))
            refine bodyPost_ret (results_cell_tmp rfl _ _ w.heap.size _ rfl B9 rfl) rfl ?_
            rw [hd1, hd2]
            exact ⟨none, 0, rfl, ⟨rfl, fun h => absurd h (by simp [zeroT])⟩, HB9⟩
          · obtain ⟨hd1, hd2⟩ := dec_ok (bs := bs) Ht1.out (by rw [Ht2.out]; rfl)
            go_wp2_with (first
              | (refine wpList_loadTbG (by rfl) (.tmp 6) rfl w3.heap.size rfl s i _ X ?_)
              | (go_at_call 69; (with_reducible refine HMy.out.mono ?_); rintro e' u1 ⟨rfl, hb⟩; have BR1 := BR.call hb; have X1 := X.call hb; have O1 := O.call hb; have HB1 := HB.trans (hb.mono (by omega)); have hs1 := hb.size; clear hb)
              | (refine wpList_loadTbG (by rfl) (.tmp 6) rfl w3.heap.size rfl s i _ X1 ?_)
              | (refine wpList_storeG rfl 34 (.tmp 2) (.tmp 52) rfl w.heap.size _ (tbCells s i (.slice A' l.length c')).toArray BR1 rfl rfl (by kernel_rfl) rfl (tb_one _ _ _ _ _) ?_; intro W9 B9 G9 hs9; have HB9 := grown_below HB1 G9 (by omega) (Nat.le_refl _); have O9 := O1.far G9 (Or.inl (by omega))))
            refine bodyPost_ret (results_cell_tmp rfl _ _ w.heap.size _ rfl B9 rfl) rfl ?_
            rw [hd1, hd2]
            obtain ⟨A3, c3, hv, S3⟩ := O9.sl
            cases hv
            exact ⟨_, _, rfl, S3, HB9⟩
        · obtain ⟨hd1, hd2⟩ := dec_no (bs := bs) (by rw [Ht2.out]; cases r3 with | nil => exact absurd rfl hr | cons x y => rfl)
          have hnb : (0 : Int) < (r3.length : Int) := by have := List.length_pos_iff.2 hr; omega
          generalize r3.length = nr at q0 hnb
          go_wp2_with (refine wpList_storeG rfl 34 (.tmp 2) (.tmp 51) rfl w.heap.size _ (tbCells ⟨0, false, 0, 0⟩ ⟨false, ⟨0, false, 0, 0⟩, ⟨0, false, 0, 0⟩⟩ (.slice none 0 0)).toArray BR rfl rfl (by kernel_rfl) rfl (tb_one _ _ _ _ _) ?_; intro W9 B9 G9 hs9; have HB9 := grown_below HB G9 (by omega) (Nat.le_refl _))
          refine bodyPost_ret (results_cell_tmp rfl _ _ w.heap.size _ rfl B9 rfl) rfl ?_
          rw [hd1, hd2]
          exact ⟨none, 0, rfl, ⟨rfl, fun h => absurd h (by simp [zeroT])⟩, HB9⟩
      · obtain ⟨hd1, hd2⟩ := dec_no (bs := bs) (by rw [Ht2.out]; rfl)
        go_wp2_with (refine wpList_storeG rfl 34 (.tmp 2) (.tmp 51) rfl w.heap.size _ (tbCells ⟨0, false, 0, 0⟩ ⟨false, ⟨0, false, 0, 0⟩, ⟨0, false, 0, 0⟩⟩ (.slice none 0 0)).toArray BR rfl rfl (by kernel_rfl) rfl (tb_one _ _ _ _ _) ?_; intro W9 B9 G9 hs9; have HB9 := grown_below HB G9 (by omega) (Nat.le_refl _))
        refine bodyPost_ret (results_cell_tmp rfl _ _ w.heap.size _ rfl B9 rfl) rfl ?_
        rw [hd1, hd2]
        exact ⟨none, 0, rfl, ⟨rfl, fun h => absurd h (by simp [zeroT])⟩, HB9⟩
end Go.Proofs.Ytakajahogjeiaab.Wk
