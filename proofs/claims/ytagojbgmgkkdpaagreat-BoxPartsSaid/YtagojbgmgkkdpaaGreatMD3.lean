import Derived.Test.YtagojbgmgkkdpaaGreatMWa
/- Walk: the reference's sum of two dyadic numbers. -/
namespace Go.Proofs.YtagojbgmgkkdpaaGreat.Wk
open Go.RowKit Go.Proofs.Pl Go.Proofs.YtagojbgmgkkdpaaGreatW.PrintLast
set_option linter.unusedSimpArgs false
set_option linter.unusedVariables false

/-- one that stands for more, written on a lower exponent -/
theorem two_val (na nb : Bool) {X Y i j : Nat} {e0 : Int} (hX : 0 < X) (hY : 0 < Y) {s : Nat} (hs : e0 + j + twos Y = e0 + i + twos X + s) :
  sgnZ na (X * 2 ^ i) + sgnZ nb (Y * 2 ^ j) = (sgnZ na (oddN X) + sgnZ nb (oddN Y * 2 ^ s)) * (2 ^ (i + twos X) : Nat) := by
 have hx : X * 2 ^ i = oddN X * 2 ^ (i + twos X) := by
  conv => lhs; rw [← odd_twos X]
  rw [Nat.mul_assoc, ← Nat.pow_add, Nat.add_comm i]
 have hy : Y * 2 ^ j = oddN Y * 2 ^ s * 2 ^ (i + twos X) := by
  conv => lhs; rw [← odd_twos Y]
  rw [Nat.mul_assoc, Nat.mul_assoc, ← Nat.pow_add, ← Nat.pow_add]
  congr 2
  omega
 rw [hx, hy]
 generalize 2 ^ (i + twos X) = t
 unfold sgnZ
 rw [Int.add_mul]
 cases na <;> cases nb <;> simp [Int.neg_mul, Int.natCast_mul]
theorem retDy_z {w w' : World} {Z V : Int} {t : Nat} {e e0 : Int} {en : Ending} (h : RetDy w (decide (Z < 0)) Z.natAbs e en w') (hV : V = Z * (2 ^ t : Nat)) (he : e = e0 + t) : RetDy w (decide (V < 0)) V.natAbs e0 en w' := by
 have hp : 0 < 2 ^ t := Nat.pow_pos (by decide)
 have hn : V.natAbs = Z.natAbs * 2 ^ t := by rw [hV, Int.natAbs_mul]; rfl
 have hs : decide (V < 0) = decide (Z < 0) := by
  rw [decide_eq_decide, hV]
  constructor
  ·intro g
   rcases Int.lt_or_le Z 0 with h | h
   ·exact h
   ·have := Int.mul_nonneg h (Int.natCast_nonneg (2 ^ t)); omega
  ·intro g
   exact Int.mul_neg_of_neg_of_pos g (by exact_mod_cast hp)
 have hz : decide (0 < V.natAbs) = decide (0 < Z.natAbs) := by
  rw [decide_eq_decide, hn]
  constructor
  ·intro g; exact Nat.pos_of_ne_zero (by intro h0; rw [h0, Nat.zero_mul] at g; omega)
  ·intro g; exact Nat.mul_pos g hp
 obtain ⟨d1, d2⟩ := dy_pow Z.natAbs t e0
 unfold RetDy at h ⊢
 rw [hs, hz, hn, d1, d2, ← he]
 exact h
theorem retDy_of {w w' : World} {neg neg' : Bool} {N : Nat} {e : Int} {en : Ending} (h : RetDy w neg N e en w') (he : 0 < N → neg = neg') : RetDy w neg' N e en w' := by
 have e' : (neg && decide (0 < N)) = (neg' && decide (0 < N)) := by
  by_cases h0 : 0 < N
  ·rw [he h0]
  ·rw [decide_eq_false h0, Bool.and_false, Bool.and_false]
 unfold RetDy at h ⊢
 rw [← e']
 exact h
theorem retDy_sgn {w w' : World} {neg : Bool} {N : Nat} {e : Int} {en : Ending} (h : RetDy w neg N e en w') : RetDy w (decide (sgnZ neg N < 0)) (sgnZ neg N).natAbs e en w' := by
 have hn : (sgnZ neg N).natAbs = N := by unfold sgnZ; split <;> omega
 rw [hn]
 refine retDy_of h fun h0 => ?_
 unfold sgnZ
 cases neg <;> simp <;> omega
theorem sgnZ_mul (neg : Bool) (N t : Nat) : sgnZ neg (N * t) = sgnZ neg N * (t : Int) := by
 unfold sgnZ
 cases neg <;> simp [Int.natCast_mul, Int.neg_mul]
theorem sgnZ_zero (neg : Bool) : sgnZ neg 0 = 0 := by unfold sgnZ; split <;> rfl
theorem digs0 {N n : Nat} (h : (digs (oddN N)).length = n) : (n = 0 → N = 0) ∧ (0 < n → 0 < N) := by
 have h1 := digs_none (oddN N) h
 have h2 := oddN_pos (n := N)
 exact ⟨fun h => by omega, fun h => h2.1 (h1.1 h)⟩
theorem wrap_z {n : Int} (h0 : -9223372036854775808 ≤ n) (h1 : n < 9223372036854775808) : IntKind.i64.wrap n = n := by
 unfold IntKind.wrap
 simp [IntKind.bits, IntKind.signed]
 omega
theorem SlU.st {w : World} {n g : Nat} {A : Option Addr} {xs : List Int} {T : TypeId} {cs : Array Value} (h : SlU w w.heap.size A n xs) (hb : Blk w g T cs) (hc : ∀ (i : Nat) (x : Int), cs[i]? ≠ some (.int .u32 x)) (o : Nat) (v : Value) : SlU (w.setCell ⟨g, o, none⟩ v) (w.setCell ⟨g, o, none⟩ v).heap.size A n xs := (h.store hb hc o v).more (by simp)
theorem valL_lt_pow {xs : List Int} {n k b : Nat} (h : Lim xs) (hl : xs.length = n) (hn : n ≤ k) (hb : 32 * k = b) : valL xs < 2 ^ b := by
 have h1 := valL_lt h
 rw [hl, pow32] at h1
 refine Nat.lt_of_lt_of_le h1 (Nat.pow_le_pow_right (by decide) ?_)
 omega
theorem odd_lt {H s a b c : Nat} (h : H < 2 ^ a) (hs : s ≤ b) (hc : a + b = c) : oddN H * 2 ^ s < 2 ^ c := by
 have h1 := Nat.mul_lt_mul_of_lt_of_le (Nat.lt_of_le_of_lt (oddN_le H) h) (Nat.pow_le_pow_right (show 0 < 2 by decide) hs) (Nat.pow_pos (by decide))
 rw [← Nat.pow_add, hc] at h1
 exact h1
theorem odd_lt' {H a c : Nat} (h : H < 2 ^ a) (hc : a ≤ c) : oddN H < 2 ^ c :=
 Nat.lt_of_lt_of_le (Nat.lt_of_le_of_lt (oddN_le H) h) (Nat.pow_le_pow_right (by decide) hc)
theorem len_one {M a k n : Nat} (h : M < 2 ^ a) (hk : a ≤ 32 * k) (hn : (digs M).length = n) : n ≤ k := by
 rw [← hn]
 refine digs_len ?_
 rw [pow32]
 exact Nat.lt_of_lt_of_le h (Nat.pow_le_pow_right (by decide) hk)
theorem len_sum {L M Z a k n : Nat} (hL : L < 2 ^ a) (hM : M < 2 ^ a) (hZ : Z ≤ L + M) (hk : a + 8 ≤ 32 * k) (hn : (digs Z).length = n) : n ≤ k := by
 refine len_one (a := a + 8) ?_ hk hn
 rw [Nat.pow_add]
 generalize 2 ^ a = P at hL hM
 omega
theorem cases4 (n1 n2 : Nat) (pa pb : Int) : n1 = 0 ∨ (((n1 : Int) == 0) = false ∧ 0 < n1 ∧ n2 = 0) ∨ (((n1 : Int) == 0) = false ∧ 0 < n1 ∧ ((n2 : Int) == 0) = false ∧ 0 < n2 ∧ pb < pa) ∨ (((n1 : Int) == 0) = false ∧ 0 < n1 ∧ ((n2 : Int) == 0) = false ∧ 0 < n2 ∧ ¬ pb < pa) := by
 by_cases h1 : n1 = 0
 ·exact .inl h1
 ·have h1' : ((n1 : Int) == 0) = false := by simp; omega
  by_cases h2 : n2 = 0
  ·exact .inr (.inl ⟨h1', by omega, h2⟩)
  ·have h2' : ((n2 : Int) == 0) = false := by simp; omega
   by_cases h : pb < pa
   ·exact .inr (.inr (.inl ⟨h1', by omega, h2', by omega, h⟩))
   ·exact .inr (.inr (.inr ⟨h1', by omega, h2', by omega, h⟩))
set_option maxRecDepth 100000 in
set_option maxHeartbeats 4000000 in
theorem r3two_calls (na nb : Bool) (A : Option Addr) (n c : Nat) (xs : List Int) (ea : Int) (B : Option Addr) (m d : Nat) (ys : List Int) (eb : Int) (w : World) (hs : SlU w w.heap.size A n xs) (ht : SlU w w.heap.size B m ys)
  (hn : n ≤ 8) (hm : m ≤ 8) (hc : n ≤ c) (hd : m ≤ d) (ha : -3000 ≤ ea ∧ ea ≤ 3000) (hb : -3000 ≤ eb ∧ eb ≤ 3000) (e0 : Int) (i j : Nat) (hi : ea = e0 + i) (hj : eb = e0 + j) :
  Calls Tryz.prog 111 #[.agg #[.bool na, .slice A n c, .int .i64 ea], .agg #[.bool nb, .slice B m d, .int .i64 eb]] w (RetDy w (decide (sgnZ na (valL xs * 2 ^ i) + sgnZ nb (valL ys * 2 ^ j) < 0)) (sgnZ na (valL xs * 2 ^ i) + sgnZ nb (valL ys * 2 ^ j)).natAbs e0) := by
 have hlx : valL xs < 2 ^ 256 := valL_lt_pow hs.2.1 hs.1 hn (show 32 * 8 = 256 from rfl)
 have hly : valL ys < 2 ^ 256 := valL_lt_pow ht.2.1 ht.1 hm (show 32 * 8 = 256 from rfl)
 have HMa := Lib.hid (fun W h => r3make_calls na A n c xs ea W h (by omega) hc (by omega) (by omega))
 have HMb := Lib.hid (fun W h => r3make_calls nb B m d ys eb W h (by omega) hd (by omega) (by omega))
 replace hlx := Lib.hid hlx
 replace hly := Lib.hid hly
 replace hs := Lib.hid hs
 replace ht := Lib.hid ht
 generalize valL xs = X at HMa hlx ⊢
 generalize valL ys = Y at HMb hly ⊢
 generalize hV : sgnZ na (X * 2 ^ i) + sgnZ nb (Y * 2 ^ j) = V
 replace hV := Lib.hid hV
 replace hi := Lib.hid hi
 replace hj := Lib.hid hj
 have BB : Blk _ (w.heap.size + 1) 128 #[.bool nb, .slice B m d, .int .i64 eb] := Blk.alloc (Blk.new1 w (.cells #[.bool na, .slice A n c, .int .i64 ea] 128) _ _) (.cells #[.bool false, .slice none 0 0, .int .i64 0] 128)
 have BR : Blk _ (w.heap.size + 1 + 1) 128 #[.bool false, .slice none 0 0, .int .i64 0] := Blk.new2 w (.cells #[.bool na, .slice A n c, .int .i64 ea] 128) (.cells #[.bool nb, .slice B m d, .int .i64 eb] 128) _ _
 have HBd := (bl_alloc (bl_alloc (bl_alloc (Below.refl w.heap.size w) (.cells #[.bool na, .slice A n c, .int .i64 ea] 128)) (.cells #[.bool nb, .slice B m d, .int .i64 eb] 128)) (.cells #[.bool false, .slice none 0 0, .int .i64 0] 128))
 go_enter Tryz.func111, Tryz.ntmps111
 go_wp2_with (first
  | (go_at_call 125; (with_reducible refine (HMa.out _ (hs.out.on HBd)).mono ?_); rintro e1 w1 ⟨A1, n1, c1, rfl, hc1, S1, hb1⟩; replace BB := BB.call hb1; replace BR := BR.call hb1; replace HBd := bl_trans HBd hb1; replace S1 := Lib.hid S1; have hlb := BR.lt; have hlb1 := BB.lt; obtain ⟨yc0, yc1, yc2⟩ : w1.cell? ⟨w.heap.size + 1, 0, none⟩ = some (.bool nb) ∧ w1.cell? ⟨w.heap.size + 1, 1, none⟩ = some (.slice B m d) ∧ w1.cell? ⟨w.heap.size + 1, 2, none⟩ = some (.int .i64 eb) := ⟨BB.cell 0, BB.cell 1, BB.cell 2⟩; generalize hsa : (na && decide (0 < X)) = sa; generalize hpa : dyE X ea = pa; replace hsa := Lib.hid hsa; replace hpa := Lib.hid hpa; replace S1 := Lib.hid (S1.out.on (bl_alloc (Below.refl w1.heap.size w1) (.cells #[.bool sa, .slice A1 n1 c1, .int .i64 pa] 128))); have BX : Blk (w1.alloc (.cells #[.bool sa, .slice A1 n1 c1, .int .i64 pa] 128)) w1.heap.size 128 _ := Blk.new w1 _ _; replace BR := BR.alloc (.cells #[.bool sa, .slice A1 n1 c1, .int .i64 pa] 128); replace HBd := bl_alloc HBd (.cells #[.bool sa, .slice A1 n1 c1, .int .i64 pa] 128); clear hb1)
  | (go_at_call 125; (with_reducible refine (HMb.out _ (ht.out.on HBd)).mono ?_); rintro e2 w2 ⟨A2, n2, c2, rfl, hc2, S2, hb2⟩; replace BX := BX.call hb2; replace BR := BR.call hb2; replace HBd := bl_trans HBd hb2; replace S1 := Lib.hid (S1.out.on hb2); replace S2 := Lib.hid S2; have hgx := BX.lt; have hlr := BR.lt; obtain ⟨xc0, xc1, xc2⟩ : w2.cell? ⟨w1.heap.size, 0, none⟩ = some (.bool sa) ∧ w2.cell? ⟨w1.heap.size, 1, none⟩ = some (.slice A1 n1 c1) ∧ w2.cell? ⟨w1.heap.size, 2, none⟩ = some (.int .i64 pa) := ⟨BX.cell 0, BX.cell 1, BX.cell 2⟩; generalize hsb : (nb && decide (0 < Y)) = sb; generalize hpb : dyE Y eb = pb; replace hsb := Lib.hid hsb; replace hpb := Lib.hid hpb; clear BB hlb1 hb2; obtain ⟨xf0, xf1, xf2⟩ : w2.frozen? ⟨w1.heap.size, 0, none⟩ = false ∧ w2.frozen? ⟨w1.heap.size, 1, none⟩ = false ∧ w2.frozen? ⟨w1.heap.size, 2, none⟩ = false := ⟨BX.frozen 0, BX.frozen 1, BX.frozen 2⟩; obtain ⟨zc0, zc1, zc2⟩ : w2.cell? ⟨w.heap.size + 1 + 1, 0, none⟩ = some (.bool false) ∧ w2.cell? ⟨w.heap.size + 1 + 1, 1, none⟩ = some (.slice none 0 0) ∧ w2.cell? ⟨w.heap.size + 1 + 1, 2, none⟩ = some (.int .i64 0) := ⟨BR.cell 0, BR.cell 1, BR.cell 2⟩; obtain ⟨zf0, zf1, zf2⟩ : w2.frozen? ⟨w.heap.size + 1 + 1, 0, none⟩ = false ∧ w2.frozen? ⟨w.heap.size + 1 + 1, 1, none⟩ = false ∧ w2.frozen? ⟨w.heap.size + 1 + 1, 2, none⟩ = false := ⟨BR.frozen 0, BR.frozen 1, BR.frozen 2⟩; rcases cases4 n1 n2 pa pb with rfl | ⟨hne1, hn1, rfl⟩ | ⟨hne1, hn1, hne2, hn2, hab⟩ | ⟨hne1, hn1, hne2, hn2, hab⟩))
 ·skip
  have B2 := (((BR.set_ 0 (.bool sb)).set_ 1 (.slice A2 n2 c2)).set_ 2 (.int .i64 pb))
  have HB2 := (((HBd.setCell (p := ⟨w.heap.size + 1 + 1, 0, none⟩) (by show w.heap.size ≤ w.heap.size + 1 + 1; omega) (.bool sb)).setCell (p := ⟨w.heap.size + 1 + 1, 1, none⟩) (by show w.heap.size ≤ w.heap.size + 1 + 1; omega) (.slice A2 n2 c2)).setCell (p := ⟨w.heap.size + 1 + 1, 2, none⟩) (by show w.heap.size ≤ w.heap.size + 1 + 1; omega) (.int .i64 pb))
  have S3 := ((S2.out.store BR (noU3 _ _ _ _ _) 0 (.bool sb)).store (BR.set_ 0 _) (noU3 _ _ _ _ _) 1 (.slice A2 n2 c2)).store ((BR.set_ 0 _).set_ 1 _) (noU3 _ _ _ _ _) 2 (.int .i64 pb)
  have hz := (digs0 S1.out.1).1 rfl
  have hV' : V = sgnZ nb Y * ((2 ^ j : Nat) : Int) := by
   rw [← hV.out, ← sgnZ_mul, hz, Nat.zero_mul]
   rw [sgnZ_zero, Int.zero_add]
  have hR : RetDy w nb Y (e0 + j) (.returned (.agg #[.bool sb, .slice A2 n2 c2, .int .i64 pb])) (_ : World) := ⟨A2, n2, c2, by rw [hsb.out, ← hj.out, hpb.out], hc2, (S3.more (by simp)).on (bl_alloc (Below.refl _ _) (.cells #[.bool sb, .slice A2 n2 c2, .int .i64 pb] 128)), bl_alloc HB2 (.cells #[.bool sb, .slice A2 n2 c2, .int .i64 pb] 128)⟩
  exact bodyPost_ret (results_cell_row rfl _ _ (w.heap.size + 1 + 1) 128 _ (0, 0) _ rfl (B2.alloc (.cells #[.bool sb, .slice A2 n2 c2, .int .i64 pb] 128)) Tryz.underlying128 rfl (by kernel_rfl)) rfl (retDy_z (retDy_sgn hR) hV' rfl)
 ·skip
  have B2 := (((BR.set_ 0 (.bool sa)).set_ 1 (.slice A1 n1 c1)).set_ 2 (.int .i64 pa))
  have HB2 := (((HBd.setCell (p := ⟨w.heap.size + 1 + 1, 0, none⟩) (by show w.heap.size ≤ w.heap.size + 1 + 1; omega) (.bool sa)).setCell (p := ⟨w.heap.size + 1 + 1, 1, none⟩) (by show w.heap.size ≤ w.heap.size + 1 + 1; omega) (.slice A1 n1 c1)).setCell (p := ⟨w.heap.size + 1 + 1, 2, none⟩) (by show w.heap.size ≤ w.heap.size + 1 + 1; omega) (.int .i64 pa))
  have S3 := ((S1.out.store BR (noU3 _ _ _ _ _) 0 (.bool sa)).store (BR.set_ 0 _) (noU3 _ _ _ _ _) 1 (.slice A1 n1 c1)).store ((BR.set_ 0 _).set_ 1 _) (noU3 _ _ _ _ _) 2 (.int .i64 pa)
  have hz := (digs0 S2.out.1).1 rfl
  have hV' : V = sgnZ na X * ((2 ^ i : Nat) : Int) := by
   rw [← hV.out, ← sgnZ_mul, hz, Nat.zero_mul]
   rw [sgnZ_zero, Int.add_zero]
  have hR : RetDy w na X (e0 + i) (.returned (.agg #[.bool sa, .slice A1 n1 c1, .int .i64 pa])) (_ : World) := ⟨A1, n1, c1, by rw [hsa.out, ← hi.out, hpa.out], hc1, (S3.more (by simp)).on (bl_alloc (Below.refl _ _) (.cells #[.bool sb, .slice A2 0 c2, .int .i64 pb] 128)), bl_alloc HB2 (.cells #[.bool sb, .slice A2 0 c2, .int .i64 pb] 128)⟩
  exact bodyPost_ret (results_cell_row rfl _ _ (w.heap.size + 1 + 1) 128 _ (0, 0) _ rfl (B2.alloc (.cells #[.bool sb, .slice A2 0 c2, .int .i64 pb] 128)) Tryz.underlying128 rfl (by kernel_rfl)) rfl (retDy_z (retDy_sgn hR) hV' rfl)
 ·skip
  have hne : w.heap.size + 1 + 1 ≠ w1.heap.size := by omega
  have BX' : Blk _ w1.heap.size 128 #[.bool sb, .slice A2 n2 c2, .int .i64 pb] := (((BX.set_ 0 (.bool sb)).set_ 1 (.slice A2 n2 c2)).set_ 2 (.int .i64 pb))
  replace S1 := Lib.hid (((S1.out.store BX (noU3 _ _ _ _ _) 0 (.bool sb)).store (BX.set_ 0 _) (noU3 _ _ _ _ _) 1 (.slice A2 n2 c2)).store ((BX.set_ 0 _).set_ 1 _) (noU3 _ _ _ _ _) 2 (.int .i64 pb))
  replace S2 := Lib.hid (((S2.out.store BX (noU3 _ _ _ _ _) 0 (.bool sb)).store (BX.set_ 0 _) (noU3 _ _ _ _ _) 1 (.slice A2 n2 c2)).store ((BX.set_ 0 _).set_ 1 _) (noU3 _ _ _ _ _) 2 (.int .i64 pb))
  replace BR := ((BR.far (p := ⟨w1.heap.size, 0, none⟩) hne (.bool sb)).far (p := ⟨w1.heap.size, 1, none⟩) hne (.slice A2 n2 c2)).far (p := ⟨w1.heap.size, 2, none⟩) hne (.int .i64 pb)
  replace HBd := ((HBd.setCell (p := ⟨w1.heap.size, 0, none⟩) (by show w.heap.size ≤ w1.heap.size; omega) (.bool sb)).setCell (p := ⟨w1.heap.size, 1, none⟩) (by show w.heap.size ≤ w1.heap.size; omega) (.slice A2 n2 c2)).setCell (p := ⟨w1.heap.size, 2, none⟩) (by show w.heap.size ≤ w1.heap.size; omega) (.int .i64 pb)
  have hsz : ((((w2.setCell ⟨w1.heap.size, 0, none⟩ (.bool sb)).setCell ⟨w1.heap.size, 1, none⟩ (.slice A2 n2 c2)).setCell ⟨w1.heap.size, 2, none⟩ (.int .i64 pb))).heap.size = w2.heap.size := by simp
  clear xc0 xc1 xc2 xf0 xf1 xf2 zc0 zc1 zc2 zf0 zf1 zf2 BX
  rename Blk _ w1.heap.size _ _ => BX
  generalize (((w2.setCell ⟨w1.heap.size, 0, none⟩ (.bool sb)).setCell ⟨w1.heap.size, 1, none⟩ (.slice A2 n2 c2)).setCell ⟨w1.heap.size, 2, none⟩ (.int .i64 pb)) = V2 at BX BR HBd S1 S2 hsz ⊢
  have BY : Blk ((V2.alloc (.cells #[.bool sa, .slice A1 n1 c1, .int .i64 pa] 128)).alloc (.cells #[.bool sa, .slice A1 n1 c1, .int .i64 pa] 128)) w2.heap.size 128 #[.bool sa, .slice A1 n1 c1, .int .i64 pa] := by rw [← hsz]; exact (Blk.new V2 _ _).alloc _
  replace BX := (BX.alloc (.cells #[.bool sa, .slice A1 n1 c1, .int .i64 pa] 128)).alloc (.cells #[.bool sa, .slice A1 n1 c1, .int .i64 pa] 128)
  replace BR := (BR.alloc (.cells #[.bool sa, .slice A1 n1 c1, .int .i64 pa] 128)).alloc (.cells #[.bool sa, .slice A1 n1 c1, .int .i64 pa] 128)
  replace HBd := bl_alloc (bl_alloc HBd (.cells #[.bool sa, .slice A1 n1 c1, .int .i64 pa] 128)) (.cells #[.bool sa, .slice A1 n1 c1, .int .i64 pa] 128)
  replace S1 := Lib.hid ((S1.out.more (B' := V2.heap.size) (by omega)).on (bl_alloc (bl_alloc (Below.refl _ _) (.cells #[.bool sa, .slice A1 n1 c1, .int .i64 pa] 128)) (.cells #[.bool sa, .slice A1 n1 c1, .int .i64 pa] 128)))
  replace S2 := Lib.hid ((S2.out.more (B' := V2.heap.size) (by omega)).on (bl_alloc (bl_alloc (Below.refl _ _) (.cells #[.bool sa, .slice A1 n1 c1, .int .i64 pa] 128)) (.cells #[.bool sa, .slice A1 n1 c1, .int .i64 pa] 128)))
  clear hsz
  generalize (V2.alloc (.cells #[.bool sa, .slice A1 n1 c1, .int .i64 pa] 128)).alloc (.cells #[.bool sa, .slice A1 n1 c1, .int .i64 pa] 128) = W at BX BY BR HBd S1 S2 ⊢
  generalize w1.heap.size = g1 at BX hgx hlb ⊢
  generalize w2.heap.size = g2 at BY hgx hlr ⊢
  have hX := (digs0 S1.out.1).2 hn1
  have hY := (digs0 S2.out.1).2 hn2
  have tX := twos_lt hlx.out
  have tY := twos_lt hly.out
  have ePa : pa = ea + twos X := by rw [← hpa.out, dyE_pos hX]
  have ePb : pb = eb + twos Y := by rw [← hpb.out, dyE_pos hY]
  have eSa : sa = na := by rw [← hsa.out, decide_eq_true hX, Bool.and_true]
  have eSb : sb = nb := by rw [← hsb.out, decide_eq_true hY, Bool.and_true]
  obtain ⟨s, hs⟩ : ∃ s : Nat, pa - pb = s := ⟨(pa - pb).toNat, by omega⟩
  have hs7 : s ≤ 7000 := by omega
  have l1 := len_one (k := 8) (odd_lt' (c := 256) hlx.out (Nat.le_refl _)) (by decide) S1.out.1
  have l2 := len_one (k := 8) (odd_lt' (c := 256) hly.out (Nat.le_refl _)) (by decide) S2.out.1
  have hMl := odd_lt (c := 7256) hlx.out hs7 rfl
  have hLl := odd_lt' (c := 7256) hly.out (by decide)
  have hM0 : 0 < oddN X * 2 ^ s := Nat.mul_pos (oddN_pos.2 hX) (Nat.pow_pos (by decide))
  have HSh := (fun W h => r1shl_calls A1 n1 c1 s (digs (oddN X)) W h (by omega) hc1 (by omega))
  have hsw : IntKind.i64.wrap (pa - pb) = (s : Int) := by rw [wrap_z (by omega) (by omega), hs]
  rw [valL_digs, ← hsw] at HSh
  have hVZ : V = (sgnZ nb (oddN Y) + sgnZ na (oddN X * 2 ^ s)) * ((2 ^ (j + twos Y) : Nat) : Int) := by
   rw [← hV.out]
   rw [Int.add_comm]; exact two_val (e0 := e0) nb na hY hX (by have := hi.out; have := hj.out; omega)
  have hPl : pb = e0 + ((j + twos Y : Nat) : Int) := by have := hi.out; have := hj.out; omega
  have hZl : ∀ Z : Int, Z = sgnZ nb (oddN Y) + sgnZ na (oddN X * 2 ^ s) → ∀ n', (digs Z.natAbs).length = n' → n' ≤ 227 := by
   intro Z hZ n' h
   exact len_sum hLl hMl (by rw [hZ]; unfold sgnZ; split <;> split <;> omega) (by decide) h
  have hMl3 : ∀ n', (digs (oddN X * 2 ^ s)).length = n' → n' ≤ 227 := fun n' h => len_one hMl (by decide) h
  generalize oddN X * 2 ^ s = M at HSh hVZ hM0 hZl hMl3
  rw [← eSb, ← eSa] at hVZ hZl
  have HMk := (fun A n c W h hn hc => r2make_calls sa A n c (digs M) W h hn hc)
  rw [valL_digs] at HMk
  unfold RetW at HMk
  rw [decide_eq_true hM0, Bool.and_true] at HMk
  have HAd := (fun A n c W g h hn hc => r2add_calls sb sa A2 n2 c2 (digs (oddN Y)) A n c (digs M) W g h (by omega) hn hc2 hc)
  rw [valL_digs, valL_digs] at HAd
  generalize sgnZ sb (oddN Y) + sgnZ sa M = Z at HAd hVZ hZl
  unfold RetZ RetW at HAd
  have HM3 := (fun A n c W h hn hc => r3make_calls (decide (Z < 0) && decide (0 < Z.natAbs)) A n c (digs Z.natAbs) pb W h hn hc (by omega) (by omega))
  rw [valL_digs] at HM3
  replace HM3 := (fun A n c W h hn hc => (HM3 A n c W h hn hc).mono fun e w' h => retDy_of (neg' := decide (Z < 0)) h (fun h0 => by rw [decide_eq_true h0, Bool.and_true]))
  unfold RetDy at HM3
  generalize hsz : (decide (Z < 0) && decide (0 < Z.natAbs)) = sz at HAd HM3
  generalize hpz : dyE Z.natAbs pb = pz at HM3
  replace hsz := Lib.hid hsz
  replace hpz := Lib.hid hpz
  replace HSh := Lib.hid HSh
  replace HMk := Lib.hid HMk
  replace HAd := Lib.hid HAd
  replace HM3 := Lib.hid HM3
  replace hMl3 := Lib.hid hMl3
  replace hZl := Lib.hid (hZl Z rfl)
  replace hVZ := Lib.hid hVZ
  replace hPl := Lib.hid hPl
  have bp1 : -10000 ≤ pa := by omega
  have bp2 : pa ≤ 10000 := by omega
  have bp3 : -10000 ≤ pb := by omega
  have bp4 : pb ≤ 10000 := by omega
  clear ePa ePb eSa eSb hs hsw hMl hLl hM0 hne1 hne2 tX tY hlx hly hV hi hj hsa hsb hpa hpb hX hY
  clear hs7
  replace BX := BX.drew
  replace BY := BY.drew
  replace BR := BR.drew
  replace HBd := bl_drew HBd
  replace S1 := Lib.hid (S1.out.on (bl_drew (Below.refl _ _)))
  replace S2 := Lib.hid (S2.out.on (bl_drew (Below.refl _ _)))
  refine start_ (n := 15) (S := fun w' => w'.cell? ⟨g1, 0, none⟩ = some (.bool sb) ∧ w'.cell? ⟨g1, 1, none⟩ = some (.slice A2 n2 c2) ∧ w'.cell? ⟨g1, 2, none⟩ = some (.int .i64 pb) ∧ w'.cell? ⟨g2, 0, none⟩ = some (.bool sa) ∧ w'.cell? ⟨g2, 1, none⟩ = some (.slice A1 n1 c1) ∧ w'.cell? ⟨g2, 2, none⟩ = some (.int .i64 pa)) (ds := [14]) (bq 15 0) (by kernel_rfl) rfl rfl ⟨BX.cell 0, BX.cell 1, BX.cell 2, BY.cell 0, BY.cell 1, BY.cell 2⟩ (fun hHeld => ?_)
  refine pure_ (i := 0) (N := some 39) (v := ?_) (a' := ?_) (bq 15 1) rfl rfl (by kernel_rfl) (fun _ _ _ h => h) (Or.inl ⟨by rfl, ?_⟩) ?_ ?_
  rotate_left
  ·intro w'
   go_simp
   with_reducible rfl
  rotate_left
  ·simp only [Act.put, pA, pB, pC]
   rfl
  refine pure_ (i := 1) (N := some 40) (v := ?_) (a' := ?_) (bq 15 3) rfl rfl (by kernel_rfl) (fun _ _ _ h => h) (Or.inl ⟨by rfl, ?_⟩) ?_ ?_
  rotate_left
  ·intro w'
   go_simp
   with_reducible rfl
  rotate_left
  ·simp only [Act.put, pA, pB, pC]
   rfl
  refine take_ (i := 2) (N := some 41) (v := ?_) (a' := ?_) (bq 15 7) rfl rfl (by kernel_rfl) (fun _ _ _ h => h) (Or.inl ⟨by rfl, ?_⟩) hHeld ?_ ?_
  rotate_left
  ·rintro w' ⟨s0_, s1_, s2_, s3_, s4_, s5_⟩
   go_simp
   with_reducible rfl
  rotate_left
  ·simp only [Act.put, pA, pB, pC]
   rfl
  refine pure_ (i := 3) (N := some 42) (v := ?_) (a' := ?_) (bq 15 15) rfl rfl (by kernel_rfl) (fun _ _ _ h => h) (Or.inl ⟨by rfl, ?_⟩) ?_ ?_
  rotate_left
  ·intro w'
   go_simp
   with_reducible rfl
  rotate_left
  ·simp only [Act.put, pA, pB, pC]
   rfl
  refine pure_ (i := 4) (N := some 43) (v := ?_) (a' := ?_) (bq 15 31) rfl rfl (by kernel_rfl) (fun _ _ _ h => h) (Or.inl ⟨by rfl, ?_⟩) ?_ ?_
  rotate_left
  ·intro w'
   go_simp
   with_reducible rfl
  rotate_left
  ·simp only [Act.put, pA, pB, pC]
   rfl
  refine take_ (i := 5) (N := some 44) (v := ?_) (a' := ?_) (bq 15 63) rfl rfl (by kernel_rfl) (fun _ _ _ h => h) (Or.inl ⟨by rfl, ?_⟩) hHeld ?_ ?_
  rotate_left
  ·rintro w' ⟨s0_, s1_, s2_, s3_, s4_, s5_⟩
   go_simp
   with_reducible rfl
  rotate_left
  ·simp only [Act.put, pA, pB, pC]
   rfl
  refine pure_ (i := 6) (N := some 45) (v := ?_) (a' := ?_) (bq 15 127) rfl rfl (by kernel_rfl) (fun _ _ _ h => h) (Or.inl ⟨by rfl, ?_⟩) ?_ ?_
  rotate_left
  ·intro w'
   go_simp
   with_reducible rfl
  rotate_left
  ·simp only [Act.put, pA, pB, pC]
   rfl
  refine take_ (i := 7) (N := some 46) (v := ?_) (a' := ?_) (bq 15 255) rfl rfl (by kernel_rfl) (fun _ _ _ h => h) (Or.inl ⟨by rfl, ?_⟩) hHeld ?_ ?_
  rotate_left
  ·rintro w' ⟨s0_, s1_, s2_, s3_, s4_, s5_⟩
   go_simp
   with_reducible rfl
  rotate_left
  ·simp only [Act.put, pA, pB, pC]
   rfl
  refine pure_ (i := 8) (N := some 47) (v := ?_) (a' := ?_) (bq 15 511) rfl rfl (by kernel_rfl) (fun _ _ _ h => h) (Or.inl ⟨by rfl, ?_⟩) ?_ ?_
  rotate_left
  ·intro w'
   go_simp
   with_reducible rfl
  rotate_left
  ·simp only [Act.put, pA, pB, pC]
   rfl
  refine take_ (i := 9) (N := some 48) (v := ?_) (a' := ?_) (bq 15 1023) rfl rfl (by kernel_rfl) (fun _ _ _ h => h) (Or.inl ⟨by rfl, ?_⟩) hHeld ?_ ?_
  rotate_left
  ·rintro w' ⟨s0_, s1_, s2_, s3_, s4_, s5_⟩
   go_simp
   with_reducible rfl
  rotate_left
  ·simp only [Act.put, pA, pB, pC]
   rfl
  refine pure_ (i := 10) (N := some 49) (v := ?_) (a' := ?_) (bq 15 2047) rfl rfl (by kernel_rfl) (fun _ _ _ h => h) (Or.inl ⟨by rfl, ?_⟩) ?_ ?_
  rotate_left
  ·intro w'
   go_simp
   with_reducible rfl
  rotate_left
  ·simp only [Act.put, pA, pB, pC]
   rfl
  refine two_ (i := 11) (j := 13) (Ni := some 50) (Nj := some 8) (bq 15 4095) (bq 15 10239) rfl rfl rfl rfl (by kernel_rfl) (by decide) (by decide) (fun K hK => ?_) (fun K hK => ?_)
  ·skip
   refine goes_ Tryz.func131 (by kernel_rfl) rfl #[.slice A1 n1 c1, .int .i64 (IntKind.i64.wrap (pa - pb))] (by first | rfl | go_simp) rfl rfl (by simp only [List.map_toArray, List.map_cons, List.map_nil] <;> rfl) ?_
   with_reducible refine (HSh.out _ S1.out).mono ?_
   rintro e w3 ⟨A3, n3, c3, rfl, hc3, S3, hb⟩
   refine ⟨_, rfl, ?_⟩
   replace BX := BX.call hb
   replace BY := BY.call hb
   replace BR := BR.call hb
   replace HBd := bl_trans HBd hb
   replace S1 := Lib.hid (S1.out.on hb)
   replace S2 := Lib.hid (S2.out.on hb)
   replace S3 := Lib.hid S3
   have hl3 := hMl3.out n3 S3.out.1
   refine hK.out _ _ ⟨BX.cell 0, BX.cell 1, BX.cell 2, BY.cell 0, BY.cell 1, BY.cell 2⟩ (fun hHeld => ?_)
   clear hK K hb
   refine norm_ (a' := ?_) ?_ ?_
   rotate_left
   ·show Act.put _ (some 50) _ = _
    simp only [Act.put, pA, pB, pC]
    rfl
   refine two_ (i := 12) (j := 13) (Ni := some 51) (Nj := some 8) (bq 15 8191) (bq 15 12287) rfl rfl rfl rfl (by kernel_rfl) (by decide) (by decide) (fun K hK => ?_) (fun K hK => ?_)
   ·skip
    refine goes_ Tryz.func126 (by kernel_rfl) rfl #[.bool sa, .slice A3 n3 c3] (by first | rfl | go_simp) rfl rfl (by simp only [List.map_toArray, List.map_cons, List.map_nil] <;> rfl) ?_
    with_reducible refine (HMk.out A3 n3 c3 _ S3.out (by omega) hc3).mono ?_
    rintro e w4 ⟨A4, n4, c4, rfl, hc4, S4, hb⟩
    refine ⟨_, rfl, ?_⟩
    replace BX := BX.call hb
    replace BY := BY.call hb
    replace BR := BR.call hb
    replace HBd := bl_trans HBd hb
    replace S1 := Lib.hid (S1.out.on hb)
    replace S2 := Lib.hid (S2.out.on hb)
    replace S4 := Lib.hid S4
    have hl4 := hMl3.out n4 S4.out.1
    refine hK.out _ _ ⟨BX.cell 0, BX.cell 1, BX.cell 2, BY.cell 0, BY.cell 1, BY.cell 2⟩ (fun hHeld => ?_)
    clear hK K hb
    refine norm_ (a' := ?_) ?_ ?_
    rotate_left
    ·show Act.put _ (some 51) _ = _
     simp only [Act.put, pA, pB, pC]
     rfl
    refine one_ (i := 13) (N := some 8) (bq 15 16383) rfl rfl (by kernel_rfl) (by decide) (fun K hK => ?_)
    refine value_ (v := ?_) (w1 := ?_) (by rfl) rfl ?_ ?_
    rotate_left 2
    ·go_simp
     first | rfl | (constructor <;> rfl)
    have BX0 := BX
    have BR0 := BR
    have HBd0 := HBd
    have SA := S2
    have SB := S4
    have hgw := BX.lt
    have BM : Blk (w4.alloc (.cells #[.bool false, .slice none 0 0] 126)) w4.heap.size 126 _ := Blk.new w4 _ _
    replace BX := BX.alloc (.cells #[.bool false, .slice none 0 0] 126)
    replace BY := BY.alloc (.cells #[.bool false, .slice none 0 0] 126)
    replace BR := BR.alloc (.cells #[.bool false, .slice none 0 0] 126)
    replace HBd := bl_alloc HBd (.cells #[.bool false, .slice none 0 0] 126)
    replace S1 := Lib.hid (S1.out.on (bl_alloc (Below.refl _ _) (.cells #[.bool false, .slice none 0 0] 126)))
    replace S2 := Lib.hid (S2.out.on (bl_alloc (Below.refl _ _) (.cells #[.bool false, .slice none 0 0] 126)))
    replace S4 := Lib.hid (S4.out.on (bl_alloc (Below.refl _ _) (.cells #[.bool false, .slice none 0 0] 126)))
    obtain ⟨mc0, mc1⟩ : (w4.alloc (.cells #[.bool false, .slice none 0 0] 126)).cell? ⟨w4.heap.size, 0, none⟩ = some (.bool false) ∧ (w4.alloc (.cells #[.bool false, .slice none 0 0] 126)).cell? ⟨w4.heap.size, 1, none⟩ = some (.slice none 0 0) := ⟨BM.cell 0, BM.cell 1⟩
    obtain ⟨mf0, mf1⟩ : (w4.alloc (.cells #[.bool false, .slice none 0 0] 126)).frozen? ⟨w4.heap.size, 0, none⟩ = false ∧ (w4.alloc (.cells #[.bool false, .slice none 0 0] 126)).frozen? ⟨w4.heap.size, 1, none⟩ = false := ⟨BM.frozen 0, BM.frozen 1⟩
    refine hK.out _ _ ⟨BX.cell 0, BX.cell 1, BX.cell 2, BY.cell 0, BY.cell 1, BY.cell 2⟩ (fun hHeld => ?_)
    clear hK K
    refine norm_ (a' := ?_) ?_ ?_
    rotate_left
    ·show Act.put _ (some 8) _ = _
     simp only [Act.put, pA, pB, pC]
     rfl
    refine last_ (i := 14) (N := none) (bq 15 32767) rfl rfl (by kernel_rfl) (by decide) (fun K hK => ?_)
    refine skip_ (w1 := ?_) (by rfl) rfl ?_ ?_
    rotate_left
    ·go_simp
     rfl
    refine hK.out _ _ ?_
    clear hK K
    refine done_ (by kernel_rfl) ?_
    clear hHeld BM BY BX BR HBd S1 S2 S4 mc0 mc1 mf0 mf1
    have BX := BX0
    have BR := BR0
    have HBd := HBd0
    have BN : Blk (w4.alloc (.cells #[.bool sa, .slice A4 n4 c4] 126)) w4.heap.size 126 _ := Blk.new w4 _ _
    replace BX := BX.alloc (.cells #[.bool sa, .slice A4 n4 c4] 126)
    replace BR := BR.alloc (.cells #[.bool sa, .slice A4 n4 c4] 126)
    replace HBd := bl_alloc HBd (.cells #[.bool sa, .slice A4 n4 c4] 126)
    have S2 := Lib.hid (SA.out.on (bl_alloc (Below.refl _ _) (.cells #[.bool sa, .slice A4 n4 c4] 126)))
    have S4 := Lib.hid (SB.out.on (bl_alloc (Below.refl _ _) (.cells #[.bool sa, .slice A4 n4 c4] 126)))
    generalize w4.heap.size = gm at BN ⊢
    generalize w4.alloc (.cells #[.bool sa, .slice A4 n4 c4] 126) = W5 at BX BN BR HBd S2 S4 ⊢
    go_wp2_with fail
    replace BX := BX.drew
    replace BN := BN.drew
    replace BR := BR.drew
    replace HBd := bl_drew HBd
    replace S2 := Lib.hid (S2.out.on (bl_drew (Below.refl _ _)))
    replace S4 := Lib.hid (S4.out.on (bl_drew (Below.refl _ _)))
    refine start_ (n := 8) (S := fun w' => w'.cell? ⟨g1, 0, none⟩ = some (.bool sb) ∧ w'.cell? ⟨g1, 1, none⟩ = some (.slice A2 n2 c2) ∧ w'.cell? ⟨g1, 2, none⟩ = some (.int .i64 pb) ∧ w'.cell? ⟨gm, 0, none⟩ = some (.bool sa) ∧ w'.cell? ⟨gm, 1, none⟩ = some (.slice A4 n4 c4)) (ds := [7]) (bq 8 0) (by kernel_rfl) rfl rfl ⟨BX.cell 0, BX.cell 1, BX.cell 2, BN.cell 0, BN.cell 1⟩ (fun hHeld => ?_)
    refine pure_ (i := 0) (N := some 52) (v := ?_) (a' := ?_) (bq 8 1) rfl rfl (by kernel_rfl) (fun _ _ _ h => h) (Or.inl ⟨by rfl, ?_⟩) ?_ ?_
    rotate_left
    ·intro w'
     go_simp
     with_reducible rfl
    rotate_left
    ·simp only [Act.put, pA, pB, pC]
     rfl
    refine take_ (i := 1) (N := some 53) (v := ?_) (a' := ?_) (bq 8 3) rfl rfl (by kernel_rfl) (fun _ _ _ h => h) (Or.inl ⟨by rfl, ?_⟩) hHeld ?_ ?_
    rotate_left
    ·rintro w' ⟨s0_, s1_, s2_, s3_, s4_⟩
     go_simp
     with_reducible rfl
    rotate_left
    ·simp only [Act.put, pA, pB, pC]
     rfl
    refine take_ (i := 2) (N := some 54) (v := ?_) (a' := ?_) (bq 8 7) rfl rfl (by kernel_rfl) (fun _ _ _ h => h) (Or.inl ⟨by rfl, ?_⟩) hHeld ?_ ?_
    rotate_left
    ·rintro w' ⟨s0_, s1_, s2_, s3_, s4_⟩
     go_simp
     with_reducible rfl
    rotate_left
    ·simp only [Act.put, pA, pB, pC]
     rfl
    refine pure_ (i := 4) (N := some 56) (v := ?_) (a' := ?_) (bq 8 23) rfl rfl (by kernel_rfl) (fun _ _ _ h => h) (Or.inl ⟨by rfl, ?_⟩) ?_ ?_
    rotate_left
    ·intro w'
     go_simp
     with_reducible rfl
    rotate_left
    ·simp only [Act.put, pA, pB, pC]
     rfl
    refine take_ (i := 5) (N := some 57) (v := ?_) (a' := ?_) (bq 8 55) rfl rfl (by kernel_rfl) (fun _ _ _ h => h) (Or.inl ⟨by rfl, ?_⟩) hHeld ?_ ?_
    rotate_left
    ·rintro w' ⟨s0_, s1_, s2_, s3_, s4_⟩
     go_simp
     with_reducible rfl
    rotate_left
    ·simp only [Act.put, pA, pB, pC]
     rfl
    refine one_ (i := 3) (N := some 55) (bq 8 63) rfl rfl (by kernel_rfl) (by decide) (fun K hK => ?_)
    refine goes_ Tryz.func134 (by kernel_rfl) rfl #[.agg #[.bool sb, .slice A2 n2 c2], .agg #[.bool sa, .slice A4 n4 c4]] (by first | rfl | go_simp) rfl rfl (by simp only [List.map_toArray, List.map_cons, List.map_nil] <;> rfl) ?_
    with_reducible refine (HAd.out A4 n4 c4 _ S2.out S4.out (by omega) hc4).mono ?_
    rintro e w6 ⟨A5, n5, c5, rfl, hc5, S5, hb⟩
    refine ⟨_, rfl, ?_⟩
    replace S5 := Lib.hid S5
    replace BX := BX.call hb
    replace BN := BN.call hb
    replace BR := BR.call hb
    replace HBd := bl_trans HBd hb
    have hl5 := hZl.out n5 S5.out.1
    refine hK.out _ _ ⟨BX.cell 0, BX.cell 1, BX.cell 2, BN.cell 0, BN.cell 1⟩ (fun hHeld => ?_)
    clear hK K hb
    refine norm_ (a' := ?_) ?_ ?_
    rotate_left
    ·show Act.put _ (some 55) _ = _
     simp only [Act.put, pA, pB, pC]
     rfl
    refine one_ (i := 6) (N := some 58) (bq 8 127) rfl rfl (by kernel_rfl) (by decide) (fun K hK => ?_)
    refine goes_ Tryz.func125 (by kernel_rfl) rfl #[.agg #[.bool sz, .slice A5 n5 c5], .int .i64 pb] (by first | rfl | go_simp) rfl rfl (by simp only [List.map_toArray, List.map_cons, List.map_nil] <;> rfl) ?_
    with_reducible refine (HM3.out A5 n5 c5 _ S5.out (by omega) hc5).mono ?_
    rintro e w7 ⟨A6, n6, c6, rfl, hc6, S6, hb⟩
    refine ⟨_, rfl, ?_⟩
    replace S6 := Lib.hid S6
    replace BX := BX.call hb
    replace BN := BN.call hb
    replace BR := BR.call hb
    replace HBd := bl_trans HBd hb
    obtain ⟨zc0, zc1, zc2⟩ : w7.cell? ⟨w.heap.size + 1 + 1, 0, none⟩ = some (.bool false) ∧ w7.cell? ⟨w.heap.size + 1 + 1, 1, none⟩ = some (.slice none 0 0) ∧ w7.cell? ⟨w.heap.size + 1 + 1, 2, none⟩ = some (.int .i64 0) := ⟨BR.cell 0, BR.cell 1, BR.cell 2⟩
    obtain ⟨zf0, zf1, zf2⟩ : w7.frozen? ⟨w.heap.size + 1 + 1, 0, none⟩ = false ∧ w7.frozen? ⟨w.heap.size + 1 + 1, 1, none⟩ = false ∧ w7.frozen? ⟨w.heap.size + 1 + 1, 2, none⟩ = false := ⟨BR.frozen 0, BR.frozen 1, BR.frozen 2⟩
    refine hK.out _ _ ⟨BX.cell 0, BX.cell 1, BX.cell 2, BN.cell 0, BN.cell 1⟩ (fun hHeld => ?_)
    clear hK K hb
    refine norm_ (a' := ?_) ?_ ?_
    rotate_left
    ·show Act.put _ (some 58) _ = _
     simp only [Act.put, pA, pB, pC]
     rfl
    refine last_ (i := 7) (N := none) (bq 8 255) rfl rfl (by kernel_rfl) (by decide) (fun K hK => ?_)
    refine skip_ (w1 := ?_) (by rfl) rfl ?_ ?_
    rotate_left
    ·go_simp
     rfl
    refine hK.out _ _ ?_
    clear hK K
    refine done_ (by kernel_rfl) ?_
    go_wp2_with fail
    have B2 : Blk _ (w.heap.size + 1 + 1) 128 #[.bool sz, .slice A6 n6 c6, .int .i64 pz] := (((BR.set_ 0 (.bool sz)).set_ 1 (.slice A6 n6 c6)).set_ 2 (.int .i64 pz))
    have HB2 := (((HBd.setCell (p := ⟨w.heap.size + 1 + 1, 0, none⟩) (by show w.heap.size ≤ w.heap.size + 1 + 1; omega) (.bool sz)).setCell (p := ⟨w.heap.size + 1 + 1, 1, none⟩) (by show w.heap.size ≤ w.heap.size + 1 + 1; omega) (.slice A6 n6 c6)).setCell (p := ⟨w.heap.size + 1 + 1, 2, none⟩) (by show w.heap.size ≤ w.heap.size + 1 + 1; omega) (.int .i64 pz))
    have S7 := ((S6.out.store BR (noU3 _ _ _ _ _) 0 (.bool sz)).store (BR.set_ 0 _) (noU3 _ _ _ _ _) 1 (.slice A6 n6 c6)).store ((BR.set_ 0 _).set_ 1 _) (noU3 _ _ _ _ _) 2 (.int .i64 pz)
    exact bodyPost_ret (results_cell_row rfl _ _ (w.heap.size + 1 + 1) 128 _ (0, 0) _ rfl B2 Tryz.underlying128 rfl (by kernel_rfl)) rfl (retDy_z (Z := Z) (e := pb) ⟨A6, n6, c6, by rw [hsz.out, hpz.out], hc6, S7.more (by simp), HB2⟩ hVZ.out hPl.out)
   ·skip
    refine value_ (v := ?_) (w1 := ?_) (by rfl) rfl ?_ ?_
    rotate_left 2
    ·go_simp
     first | rfl | (constructor <;> rfl)
    have hgw := BX.lt
    have BM : Blk (w3.alloc (.cells #[.bool false, .slice none 0 0] 126)) w3.heap.size 126 _ := Blk.new w3 _ _
    replace BX := BX.alloc (.cells #[.bool false, .slice none 0 0] 126)
    replace BY := BY.alloc (.cells #[.bool false, .slice none 0 0] 126)
    replace BR := BR.alloc (.cells #[.bool false, .slice none 0 0] 126)
    replace HBd := bl_alloc HBd (.cells #[.bool false, .slice none 0 0] 126)
    replace S1 := Lib.hid (S1.out.on (bl_alloc (Below.refl _ _) (.cells #[.bool false, .slice none 0 0] 126)))
    replace S2 := Lib.hid (S2.out.on (bl_alloc (Below.refl _ _) (.cells #[.bool false, .slice none 0 0] 126)))
    replace S3 := Lib.hid (S3.out.on (bl_alloc (Below.refl _ _) (.cells #[.bool false, .slice none 0 0] 126)))
    refine hK.out _ _ ⟨BX.cell 0, BX.cell 1, BX.cell 2, BY.cell 0, BY.cell 1, BY.cell 2⟩ (fun hHeld => ?_)
    clear hK K
    refine norm_ (a' := ?_) ?_ ?_
    rotate_left
    ·show Act.put _ (some 8) _ = _
     simp only [Act.put, pA, pB, pC]
     rfl
    refine one_ (i := 12) (N := some 51) (bq 15 16383) rfl rfl (by kernel_rfl) (by decide) (fun K hK => ?_)
    refine goes_ Tryz.func126 (by kernel_rfl) rfl #[.bool sa, .slice A3 n3 c3] (by first | rfl | go_simp) rfl rfl (by simp only [List.map_toArray, List.map_cons, List.map_nil] <;> rfl) ?_
    with_reducible refine (HMk.out A3 n3 c3 _ S3.out (by omega) hc3).mono ?_
    rintro e w4 ⟨A4, n4, c4, rfl, hc4, S4, hb⟩
    refine ⟨_, rfl, ?_⟩
    replace BX := BX.call hb
    replace BY := BY.call hb
    replace BR := BR.call hb
    replace HBd := bl_trans HBd hb
    replace S1 := Lib.hid (S1.out.on hb)
    replace S2 := Lib.hid (S2.out.on hb)
    replace S4 := Lib.hid S4
    have hl4 := hMl3.out n4 S4.out.1
    replace BM := BM.call hb
    obtain ⟨mc0, mc1⟩ : w4.cell? ⟨w3.heap.size, 0, none⟩ = some (.bool false) ∧ w4.cell? ⟨w3.heap.size, 1, none⟩ = some (.slice none 0 0) := ⟨BM.cell 0, BM.cell 1⟩
    obtain ⟨mf0, mf1⟩ : w4.frozen? ⟨w3.heap.size, 0, none⟩ = false ∧ w4.frozen? ⟨w3.heap.size, 1, none⟩ = false := ⟨BM.frozen 0, BM.frozen 1⟩
    refine hK.out _ _ ⟨BX.cell 0, BX.cell 1, BX.cell 2, BY.cell 0, BY.cell 1, BY.cell 2⟩ (fun hHeld => ?_)
    clear hK K hb
    refine norm_ (a' := ?_) ?_ ?_
    rotate_left
    ·show Act.put _ (some 51) _ = _
     simp only [Act.put, pA, pB, pC]
     rfl
    refine last_ (i := 14) (N := none) (bq 15 32767) rfl rfl (by kernel_rfl) (by decide) (fun K hK => ?_)
    refine skip_ (w1 := ?_) (by rfl) rfl ?_ ?_
    rotate_left
    ·go_simp
     rfl
    refine hK.out _ _ ?_
    clear hK K
    refine done_ (by kernel_rfl) ?_
    clear hHeld
    have e1 : g1 ≠ w3.heap.size := by omega
    have er : w.heap.size + 1 + 1 ≠ w3.heap.size := by omega
    replace S2 := Lib.hid ((S2.out.st BM (noU2 _ _ _ _) 0 (.bool sa)).st (BM.set_ 0 _) (noU2 _ _ _ _) 1 (.slice A4 n4 c4))
    replace S4 := Lib.hid ((S4.out.st BM (noU2 _ _ _ _) 0 (.bool sa)).st (BM.set_ 0 _) (noU2 _ _ _ _) 1 (.slice A4 n4 c4))
    have BN : Blk _ w3.heap.size 126 #[.bool sa, .slice A4 n4 c4] := (BM.set_ 0 (.bool sa)).set_ 1 (.slice A4 n4 c4)
    replace BX := (BX.far (p := ⟨w3.heap.size, 0, none⟩) e1 (.bool sa)).far (p := ⟨w3.heap.size, 1, none⟩) e1 (.slice A4 n4 c4)
    replace BR := (BR.far (p := ⟨w3.heap.size, 0, none⟩) er (.bool sa)).far (p := ⟨w3.heap.size, 1, none⟩) er (.slice A4 n4 c4)
    replace HBd := (HBd.setCell (p := ⟨w3.heap.size, 0, none⟩) (by show w.heap.size ≤ w3.heap.size; omega) (.bool sa)).setCell (p := ⟨w3.heap.size, 1, none⟩) (by show w.heap.size ≤ w3.heap.size; omega) (.slice A4 n4 c4)
    clear BM BY e1 er mc0 mc1 mf0 mf1
    generalize World.setCell _ _ _ = W5 at BX BN BR HBd S2 S4 ⊢
    generalize w3.heap.size = gm at BN ⊢
    go_wp2_with fail
    replace BX := BX.drew
    replace BN := BN.drew
    replace BR := BR.drew
    replace HBd := bl_drew HBd
    replace S2 := Lib.hid (S2.out.on (bl_drew (Below.refl _ _)))
    replace S4 := Lib.hid (S4.out.on (bl_drew (Below.refl _ _)))
    refine start_ (n := 8) (S := fun w' => w'.cell? ⟨g1, 0, none⟩ = some (.bool sb) ∧ w'.cell? ⟨g1, 1, none⟩ = some (.slice A2 n2 c2) ∧ w'.cell? ⟨g1, 2, none⟩ = some (.int .i64 pb) ∧ w'.cell? ⟨gm, 0, none⟩ = some (.bool sa) ∧ w'.cell? ⟨gm, 1, none⟩ = some (.slice A4 n4 c4)) (ds := [7]) (bq 8 0) (by kernel_rfl) rfl rfl ⟨BX.cell 0, BX.cell 1, BX.cell 2, BN.cell 0, BN.cell 1⟩ (fun hHeld => ?_)
    refine pure_ (i := 0) (N := some 52) (v := ?_) (a' := ?_) (bq 8 1) rfl rfl (by kernel_rfl) (fun _ _ _ h => h) (Or.inl ⟨by rfl, ?_⟩) ?_ ?_
    rotate_left
    ·intro w'
     go_simp
     with_reducible rfl
    rotate_left
    ·simp only [Act.put, pA, pB, pC]
     rfl
    refine take_ (i := 1) (N := some 53) (v := ?_) (a' := ?_) (bq 8 3) rfl rfl (by kernel_rfl) (fun _ _ _ h => h) (Or.inl ⟨by rfl, ?_⟩) hHeld ?_ ?_
    rotate_left
    ·rintro w' ⟨s0_, s1_, s2_, s3_, s4_⟩
     go_simp
     with_reducible rfl
    rotate_left
    ·simp only [Act.put, pA, pB, pC]
     rfl
    refine take_ (i := 2) (N := some 54) (v := ?_) (a' := ?_) (bq 8 7) rfl rfl (by kernel_rfl) (fun _ _ _ h => h) (Or.inl ⟨by rfl, ?_⟩) hHeld ?_ ?_
    rotate_left
    ·rintro w' ⟨s0_, s1_, s2_, s3_, s4_⟩
     go_simp
     with_reducible rfl
    rotate_left
    ·simp only [Act.put, pA, pB, pC]
     rfl
    refine pure_ (i := 4) (N := some 56) (v := ?_) (a' := ?_) (bq 8 23) rfl rfl (by kernel_rfl) (fun _ _ _ h => h) (Or.inl ⟨by rfl, ?_⟩) ?_ ?_
    rotate_left
    ·intro w'
     go_simp
     with_reducible rfl
    rotate_left
    ·simp only [Act.put, pA, pB, pC]
     rfl
    refine take_ (i := 5) (N := some 57) (v := ?_) (a' := ?_) (bq 8 55) rfl rfl (by kernel_rfl) (fun _ _ _ h => h) (Or.inl ⟨by rfl, ?_⟩) hHeld ?_ ?_
    rotate_left
    ·rintro w' ⟨s0_, s1_, s2_, s3_, s4_⟩
     go_simp
     with_reducible rfl
    rotate_left
    ·simp only [Act.put, pA, pB, pC]
     rfl
    refine one_ (i := 3) (N := some 55) (bq 8 63) rfl rfl (by kernel_rfl) (by decide) (fun K hK => ?_)
    refine goes_ Tryz.func134 (by kernel_rfl) rfl #[.agg #[.bool sb, .slice A2 n2 c2], .agg #[.bool sa, .slice A4 n4 c4]] (by first | rfl | go_simp) rfl rfl (by simp only [List.map_toArray, List.map_cons, List.map_nil] <;> rfl) ?_
    with_reducible refine (HAd.out A4 n4 c4 _ S2.out S4.out (by omega) hc4).mono ?_
    rintro e w6 ⟨A5, n5, c5, rfl, hc5, S5, hb⟩
    refine ⟨_, rfl, ?_⟩
    replace S5 := Lib.hid S5
    replace BX := BX.call hb
    replace BN := BN.call hb
    replace BR := BR.call hb
    replace HBd := bl_trans HBd hb
    have hl5 := hZl.out n5 S5.out.1
    refine hK.out _ _ ⟨BX.cell 0, BX.cell 1, BX.cell 2, BN.cell 0, BN.cell 1⟩ (fun hHeld => ?_)
    clear hK K hb
    refine norm_ (a' := ?_) ?_ ?_
    rotate_left
    ·show Act.put _ (some 55) _ = _
     simp only [Act.put, pA, pB, pC]
     rfl
    refine one_ (i := 6) (N := some 58) (bq 8 127) rfl rfl (by kernel_rfl) (by decide) (fun K hK => ?_)
    refine goes_ Tryz.func125 (by kernel_rfl) rfl #[.agg #[.bool sz, .slice A5 n5 c5], .int .i64 pb] (by first | rfl | go_simp) rfl rfl (by simp only [List.map_toArray, List.map_cons, List.map_nil] <;> rfl) ?_
    with_reducible refine (HM3.out A5 n5 c5 _ S5.out (by omega) hc5).mono ?_
    rintro e w7 ⟨A6, n6, c6, rfl, hc6, S6, hb⟩
    refine ⟨_, rfl, ?_⟩
    replace S6 := Lib.hid S6
    replace BX := BX.call hb
    replace BN := BN.call hb
    replace BR := BR.call hb
    replace HBd := bl_trans HBd hb
    obtain ⟨zc0, zc1, zc2⟩ : w7.cell? ⟨w.heap.size + 1 + 1, 0, none⟩ = some (.bool false) ∧ w7.cell? ⟨w.heap.size + 1 + 1, 1, none⟩ = some (.slice none 0 0) ∧ w7.cell? ⟨w.heap.size + 1 + 1, 2, none⟩ = some (.int .i64 0) := ⟨BR.cell 0, BR.cell 1, BR.cell 2⟩
    obtain ⟨zf0, zf1, zf2⟩ : w7.frozen? ⟨w.heap.size + 1 + 1, 0, none⟩ = false ∧ w7.frozen? ⟨w.heap.size + 1 + 1, 1, none⟩ = false ∧ w7.frozen? ⟨w.heap.size + 1 + 1, 2, none⟩ = false := ⟨BR.frozen 0, BR.frozen 1, BR.frozen 2⟩
    refine hK.out _ _ ⟨BX.cell 0, BX.cell 1, BX.cell 2, BN.cell 0, BN.cell 1⟩ (fun hHeld => ?_)
    clear hK K hb
    refine norm_ (a' := ?_) ?_ ?_
    rotate_left
    ·show Act.put _ (some 58) _ = _
     simp only [Act.put, pA, pB, pC]
     rfl
    refine last_ (i := 7) (N := none) (bq 8 255) rfl rfl (by kernel_rfl) (by decide) (fun K hK => ?_)
    refine skip_ (w1 := ?_) (by rfl) rfl ?_ ?_
    rotate_left
    ·go_simp
     rfl
    refine hK.out _ _ ?_
    clear hK K
    refine done_ (by kernel_rfl) ?_
    go_wp2_with fail
    have B2 : Blk _ (w.heap.size + 1 + 1) 128 #[.bool sz, .slice A6 n6 c6, .int .i64 pz] := (((BR.set_ 0 (.bool sz)).set_ 1 (.slice A6 n6 c6)).set_ 2 (.int .i64 pz))
    have HB2 := (((HBd.setCell (p := ⟨w.heap.size + 1 + 1, 0, none⟩) (by show w.heap.size ≤ w.heap.size + 1 + 1; omega) (.bool sz)).setCell (p := ⟨w.heap.size + 1 + 1, 1, none⟩) (by show w.heap.size ≤ w.heap.size + 1 + 1; omega) (.slice A6 n6 c6)).setCell (p := ⟨w.heap.size + 1 + 1, 2, none⟩) (by show w.heap.size ≤ w.heap.size + 1 + 1; omega) (.int .i64 pz))
    have S7 := ((S6.out.store BR (noU3 _ _ _ _ _) 0 (.bool sz)).store (BR.set_ 0 _) (noU3 _ _ _ _ _) 1 (.slice A6 n6 c6)).store ((BR.set_ 0 _).set_ 1 _) (noU3 _ _ _ _ _) 2 (.int .i64 pz)
    exact bodyPost_ret (results_cell_row rfl _ _ (w.heap.size + 1 + 1) 128 _ (0, 0) _ rfl B2 Tryz.underlying128 rfl (by kernel_rfl)) rfl (retDy_z (Z := Z) (e := pb) ⟨A6, n6, c6, by rw [hsz.out, hpz.out], hc6, S7.more (by simp), HB2⟩ hVZ.out hPl.out)
  ·skip
   refine value_ (v := ?_) (w1 := ?_) (by rfl) rfl ?_ ?_
   rotate_left 2
   ·go_simp
    first | rfl | (constructor <;> rfl)
   have hgw : g1 < W.heap.size := BX.lt
   have BM : Blk (W.alloc (.cells #[.bool false, .slice none 0 0] 126)).drew W.heap.size 126 #[.bool false, .slice none 0 0] := Blk.new W _ _
   replace BX : Blk (W.alloc (.cells #[.bool false, .slice none 0 0] 126)).drew g1 128 #[.bool sb, .slice A2 n2 c2, .int .i64 pb] := BX.alloc (.cells #[.bool false, .slice none 0 0] 126)
   replace BY : Blk (W.alloc (.cells #[.bool false, .slice none 0 0] 126)).drew g2 128 #[.bool sa, .slice A1 n1 c1, .int .i64 pa] := BY.alloc (.cells #[.bool false, .slice none 0 0] 126)
   replace BR : Blk (W.alloc (.cells #[.bool false, .slice none 0 0] 126)).drew (w.heap.size + 1 + 1) 128 #[.bool false, .slice none 0 0, .int .i64 0] := BR.alloc (.cells #[.bool false, .slice none 0 0] 126)
   replace HBd : Below w.heap.size w (W.alloc (.cells #[.bool false, .slice none 0 0] 126)).drew := bl_alloc HBd (.cells #[.bool false, .slice none 0 0] 126)
   replace S1 : Hid (SlU (W.alloc (.cells #[.bool false, .slice none 0 0] 126)).drew (W.alloc (.cells #[.bool false, .slice none 0 0] 126)).drew.heap.size A1 n1 (digs (oddN X))) := Lib.hid (S1.out.on (bl_alloc (Below.refl _ _) (.cells #[.bool false, .slice none 0 0] 126)))
   replace S2 : Hid (SlU (W.alloc (.cells #[.bool false, .slice none 0 0] 126)).drew (W.alloc (.cells #[.bool false, .slice none 0 0] 126)).drew.heap.size A2 n2 (digs (oddN Y))) := Lib.hid (S2.out.on (bl_alloc (Below.refl _ _) (.cells #[.bool false, .slice none 0 0] 126)))
   refine hK.out _ _ ⟨BX.cell 0, BX.cell 1, BX.cell 2, BY.cell 0, BY.cell 1, BY.cell 2⟩ (fun hHeld => ?_)
   clear hK K
   refine norm_ (a' := ?_) ?_ ?_
   rotate_left
   ·show Act.put _ (some 8) _ = _
    simp only [Act.put, pA, pB, pC]
    rfl
   refine one_ (i := 11) (N := some 50) (bq 15 12287) rfl rfl (by kernel_rfl) (by decide) (fun K hK => ?_)
   refine goes_ Tryz.func131 (by kernel_rfl) rfl #[.slice A1 n1 c1, .int .i64 (IntKind.i64.wrap (pa - pb))] (by first | rfl | go_simp) rfl rfl (by simp only [List.map_toArray, List.map_cons, List.map_nil] <;> rfl) ?_
   with_reducible refine (HSh.out _ S1.out).mono ?_
   rintro e w3 ⟨A3, n3, c3, rfl, hc3, S3, hb⟩
   refine ⟨_, rfl, ?_⟩
   replace BX := BX.call hb
   replace BY := BY.call hb
   replace BR := BR.call hb
   replace HBd := bl_trans HBd hb
   replace S1 := Lib.hid (S1.out.on hb)
   replace S2 := Lib.hid (S2.out.on hb)
   replace S3 := Lib.hid S3
   have hl3 := hMl3.out n3 S3.out.1
   replace BM := BM.call hb
   refine hK.out _ _ ⟨BX.cell 0, BX.cell 1, BX.cell 2, BY.cell 0, BY.cell 1, BY.cell 2⟩ (fun hHeld => ?_)
   clear hK K hb
   refine norm_ (a' := ?_) ?_ ?_
   rotate_left
   ·show Act.put _ (some 50) _ = _
    simp only [Act.put, pA, pB, pC]
    rfl
   refine one_ (i := 12) (N := some 51) (bq 15 16383) rfl rfl (by kernel_rfl) (by decide) (fun K hK => ?_)
   refine goes_ Tryz.func126 (by kernel_rfl) rfl #[.bool sa, .slice A3 n3 c3] (by first | rfl | go_simp) rfl rfl (by simp only [List.map_toArray, List.map_cons, List.map_nil] <;> rfl) ?_
   with_reducible refine (HMk.out A3 n3 c3 _ S3.out (by omega) hc3).mono ?_
   rintro e w4 ⟨A4, n4, c4, rfl, hc4, S4, hb⟩
   refine ⟨_, rfl, ?_⟩
   replace BX := BX.call hb
   replace BY := BY.call hb
   replace BR := BR.call hb
   replace HBd := bl_trans HBd hb
   replace S1 := Lib.hid (S1.out.on hb)
   replace S2 := Lib.hid (S2.out.on hb)
   replace S4 := Lib.hid S4
   have hl4 := hMl3.out n4 S4.out.1
   replace BM := BM.call hb
   obtain ⟨mc0, mc1⟩ : w4.cell? ⟨W.heap.size, 0, none⟩ = some (.bool false) ∧ w4.cell? ⟨W.heap.size, 1, none⟩ = some (.slice none 0 0) := ⟨BM.cell 0, BM.cell 1⟩
   obtain ⟨mf0, mf1⟩ : w4.frozen? ⟨W.heap.size, 0, none⟩ = false ∧ w4.frozen? ⟨W.heap.size, 1, none⟩ = false := ⟨BM.frozen 0, BM.frozen 1⟩
   refine hK.out _ _ ⟨BX.cell 0, BX.cell 1, BX.cell 2, BY.cell 0, BY.cell 1, BY.cell 2⟩ (fun hHeld => ?_)
   clear hK K hb
   refine norm_ (a' := ?_) ?_ ?_
   rotate_left
   ·show Act.put _ (some 51) _ = _
    simp only [Act.put, pA, pB, pC]
    rfl
   refine last_ (i := 14) (N := none) (bq 15 32767) rfl rfl (by kernel_rfl) (by decide) (fun K hK => ?_)
   refine skip_ (w1 := ?_) (by rfl) rfl ?_ ?_
   rotate_left
   ·go_simp
    rfl
   refine hK.out _ _ ?_
   clear hK K
   refine done_ (by kernel_rfl) ?_
   clear hHeld
   have e1 : g1 ≠ W.heap.size := by omega
   have er : w.heap.size + 1 + 1 ≠ W.heap.size := by omega
   replace S2 := Lib.hid ((S2.out.st BM (noU2 _ _ _ _) 0 (.bool sa)).st (BM.set_ 0 _) (noU2 _ _ _ _) 1 (.slice A4 n4 c4))
   replace S4 := Lib.hid ((S4.out.st BM (noU2 _ _ _ _) 0 (.bool sa)).st (BM.set_ 0 _) (noU2 _ _ _ _) 1 (.slice A4 n4 c4))
   have BN : Blk _ W.heap.size 126 #[.bool sa, .slice A4 n4 c4] := (BM.set_ 0 (.bool sa)).set_ 1 (.slice A4 n4 c4)
   replace BX := (BX.far (p := ⟨W.heap.size, 0, none⟩) e1 (.bool sa)).far (p := ⟨W.heap.size, 1, none⟩) e1 (.slice A4 n4 c4)
   replace BR := (BR.far (p := ⟨W.heap.size, 0, none⟩) er (.bool sa)).far (p := ⟨W.heap.size, 1, none⟩) er (.slice A4 n4 c4)
   replace HBd := (HBd.setCell (p := ⟨W.heap.size, 0, none⟩) (by show w.heap.size ≤ W.heap.size; omega) (.bool sa)).setCell (p := ⟨W.heap.size, 1, none⟩) (by show w.heap.size ≤ W.heap.size; omega) (.slice A4 n4 c4)
   clear BM BY e1 er mc0 mc1 mf0 mf1
   generalize World.setCell _ _ _ = W5 at BX BN BR HBd S2 S4 ⊢
   generalize W.heap.size = gm at BN ⊢
   go_wp2_with fail
   replace BX := BX.drew
   replace BN := BN.drew
   replace BR := BR.drew
   replace HBd := bl_drew HBd
   replace S2 := Lib.hid (S2.out.on (bl_drew (Below.refl _ _)))
   replace S4 := Lib.hid (S4.out.on (bl_drew (Below.refl _ _)))
   refine start_ (n := 8) (S := fun w' => w'.cell? ⟨g1, 0, none⟩ = some (.bool sb) ∧ w'.cell? ⟨g1, 1, none⟩ = some (.slice A2 n2 c2) ∧ w'.cell? ⟨g1, 2, none⟩ = some (.int .i64 pb) ∧ w'.cell? ⟨gm, 0, none⟩ = some (.bool sa) ∧ w'.cell? ⟨gm, 1, none⟩ = some (.slice A4 n4 c4)) (ds := [7]) (bq 8 0) (by kernel_rfl) rfl rfl ⟨BX.cell 0, BX.cell 1, BX.cell 2, BN.cell 0, BN.cell 1⟩ (fun hHeld => ?_)
   refine pure_ (i := 0) (N := some 52) (v := ?_) (a' := ?_) (bq 8 1) rfl rfl (by kernel_rfl) (fun _ _ _ h => h) (Or.inl ⟨by rfl, ?_⟩) ?_ ?_
   rotate_left
   ·intro w'
    go_simp
    with_reducible rfl
   rotate_left
   ·simp only [Act.put, pA, pB, pC]
    rfl
   refine take_ (i := 1) (N := some 53) (v := ?_) (a' := ?_) (bq 8 3) rfl rfl (by kernel_rfl) (fun _ _ _ h => h) (Or.inl ⟨by rfl, ?_⟩) hHeld ?_ ?_
   rotate_left
   ·rintro w' ⟨s0_, s1_, s2_, s3_, s4_⟩
    go_simp
    with_reducible rfl
   rotate_left
   ·simp only [Act.put, pA, pB, pC]
    rfl
   refine take_ (i := 2) (N := some 54) (v := ?_) (a' := ?_) (bq 8 7) rfl rfl (by kernel_rfl) (fun _ _ _ h => h) (Or.inl ⟨by rfl, ?_⟩) hHeld ?_ ?_
   rotate_left
   ·rintro w' ⟨s0_, s1_, s2_, s3_, s4_⟩
    go_simp
    with_reducible rfl
   rotate_left
   ·simp only [Act.put, pA, pB, pC]
    rfl
   refine pure_ (i := 4) (N := some 56) (v := ?_) (a' := ?_) (bq 8 23) rfl rfl (by kernel_rfl) (fun _ _ _ h => h) (Or.inl ⟨by rfl, ?_⟩) ?_ ?_
   rotate_left
   ·intro w'
    go_simp
    with_reducible rfl
   rotate_left
   ·simp only [Act.put, pA, pB, pC]
    rfl
   refine take_ (i := 5) (N := some 57) (v := ?_) (a' := ?_) (bq 8 55) rfl rfl (by kernel_rfl) (fun _ _ _ h => h) (Or.inl ⟨by rfl, ?_⟩) hHeld ?_ ?_
   rotate_left
   ·rintro w' ⟨s0_, s1_, s2_, s3_, s4_⟩
    go_simp
    with_reducible rfl
   rotate_left
   ·simp only [Act.put, pA, pB, pC]
    rfl
   refine one_ (i := 3) (N := some 55) (bq 8 63) rfl rfl (by kernel_rfl) (by decide) (fun K hK => ?_)
   refine goes_ Tryz.func134 (by kernel_rfl) rfl #[.agg #[.bool sb, .slice A2 n2 c2], .agg #[.bool sa, .slice A4 n4 c4]] (by first | rfl | go_simp) rfl rfl (by simp only [List.map_toArray, List.map_cons, List.map_nil] <;> rfl) ?_
   with_reducible refine (HAd.out A4 n4 c4 _ S2.out S4.out (by omega) hc4).mono ?_
   rintro e w6 ⟨A5, n5, c5, rfl, hc5, S5, hb⟩
   refine ⟨_, rfl, ?_⟩
   replace S5 := Lib.hid S5
   replace BX := BX.call hb
   replace BN := BN.call hb
   replace BR := BR.call hb
   replace HBd := bl_trans HBd hb
   have hl5 := hZl.out n5 S5.out.1
   refine hK.out _ _ ⟨BX.cell 0, BX.cell 1, BX.cell 2, BN.cell 0, BN.cell 1⟩ (fun hHeld => ?_)
   clear hK K hb
   refine norm_ (a' := ?_) ?_ ?_
   rotate_left
   ·show Act.put _ (some 55) _ = _
    simp only [Act.put, pA, pB, pC]
    rfl
   refine one_ (i := 6) (N := some 58) (bq 8 127) rfl rfl (by kernel_rfl) (by decide) (fun K hK => ?_)
   refine goes_ Tryz.func125 (by kernel_rfl) rfl #[.agg #[.bool sz, .slice A5 n5 c5], .int .i64 pb] (by first | rfl | go_simp) rfl rfl (by simp only [List.map_toArray, List.map_cons, List.map_nil] <;> rfl) ?_
   with_reducible refine (HM3.out A5 n5 c5 _ S5.out (by omega) hc5).mono ?_
   rintro e w7 ⟨A6, n6, c6, rfl, hc6, S6, hb⟩
   refine ⟨_, rfl, ?_⟩
   replace S6 := Lib.hid S6
   replace BX := BX.call hb
   replace BN := BN.call hb
   replace BR := BR.call hb
   replace HBd := bl_trans HBd hb
   obtain ⟨zc0, zc1, zc2⟩ : w7.cell? ⟨w.heap.size + 1 + 1, 0, none⟩ = some (.bool false) ∧ w7.cell? ⟨w.heap.size + 1 + 1, 1, none⟩ = some (.slice none 0 0) ∧ w7.cell? ⟨w.heap.size + 1 + 1, 2, none⟩ = some (.int .i64 0) := ⟨BR.cell 0, BR.cell 1, BR.cell 2⟩
   obtain ⟨zf0, zf1, zf2⟩ : w7.frozen? ⟨w.heap.size + 1 + 1, 0, none⟩ = false ∧ w7.frozen? ⟨w.heap.size + 1 + 1, 1, none⟩ = false ∧ w7.frozen? ⟨w.heap.size + 1 + 1, 2, none⟩ = false := ⟨BR.frozen 0, BR.frozen 1, BR.frozen 2⟩
   refine hK.out _ _ ⟨BX.cell 0, BX.cell 1, BX.cell 2, BN.cell 0, BN.cell 1⟩ (fun hHeld => ?_)
   clear hK K hb
   refine norm_ (a' := ?_) ?_ ?_
   rotate_left
   ·show Act.put _ (some 58) _ = _
    simp only [Act.put, pA, pB, pC]
    rfl
   refine last_ (i := 7) (N := none) (bq 8 255) rfl rfl (by kernel_rfl) (by decide) (fun K hK => ?_)
   refine skip_ (w1 := ?_) (by rfl) rfl ?_ ?_
   rotate_left
   ·go_simp
    rfl
   refine hK.out _ _ ?_
   clear hK K
   refine done_ (by kernel_rfl) ?_
   go_wp2_with fail
   have B2 : Blk _ (w.heap.size + 1 + 1) 128 #[.bool sz, .slice A6 n6 c6, .int .i64 pz] := (((BR.set_ 0 (.bool sz)).set_ 1 (.slice A6 n6 c6)).set_ 2 (.int .i64 pz))
   have HB2 := (((HBd.setCell (p := ⟨w.heap.size + 1 + 1, 0, none⟩) (by show w.heap.size ≤ w.heap.size + 1 + 1; omega) (.bool sz)).setCell (p := ⟨w.heap.size + 1 + 1, 1, none⟩) (by show w.heap.size ≤ w.heap.size + 1 + 1; omega) (.slice A6 n6 c6)).setCell (p := ⟨w.heap.size + 1 + 1, 2, none⟩) (by show w.heap.size ≤ w.heap.size + 1 + 1; omega) (.int .i64 pz))
   have S7 := ((S6.out.store BR (noU3 _ _ _ _ _) 0 (.bool sz)).store (BR.set_ 0 _) (noU3 _ _ _ _ _) 1 (.slice A6 n6 c6)).store ((BR.set_ 0 _).set_ 1 _) (noU3 _ _ _ _ _) 2 (.int .i64 pz)
   exact bodyPost_ret (results_cell_row rfl _ _ (w.heap.size + 1 + 1) 128 _ (0, 0) _ rfl B2 Tryz.underlying128 rfl (by kernel_rfl)) rfl (retDy_z (Z := Z) (e := pb) ⟨A6, n6, c6, by rw [hsz.out, hpz.out], hc6, S7.more (by simp), HB2⟩ hVZ.out hPl.out)
 ·skip
  have BY : Blk (w2.alloc (.cells #[.bool sb, .slice A2 n2 c2, .int .i64 pb] 128)) w2.heap.size 128 #[.bool sb, .slice A2 n2 c2, .int .i64 pb] := Blk.new w2 _ _
  replace BX := BX.alloc (.cells #[.bool sb, .slice A2 n2 c2, .int .i64 pb] 128)
  replace BR := BR.alloc (.cells #[.bool sb, .slice A2 n2 c2, .int .i64 pb] 128)
  replace HBd := bl_alloc HBd (.cells #[.bool sb, .slice A2 n2 c2, .int .i64 pb] 128)
  replace S1 := Lib.hid (S1.out.on (bl_alloc (Below.refl _ _) (.cells #[.bool sb, .slice A2 n2 c2, .int .i64 pb] 128)))
  replace S2 := Lib.hid (S2.out.on (bl_alloc (Below.refl _ _) (.cells #[.bool sb, .slice A2 n2 c2, .int .i64 pb] 128)))
  clear xc0 xc1 xc2 xf0 xf1 xf2 zc0 zc1 zc2 zf0 zf1 zf2
  generalize w2.alloc (.cells #[.bool sb, .slice A2 n2 c2, .int .i64 pb] 128) = W at BX BY BR HBd S1 S2 ⊢
  generalize w1.heap.size = g1 at BX hgx hlb ⊢
  generalize w2.heap.size = g2 at BY hgx hlr ⊢
  have hX := (digs0 S1.out.1).2 hn1
  have hY := (digs0 S2.out.1).2 hn2
  have tX := twos_lt hlx.out
  have tY := twos_lt hly.out
  have ePa : pa = ea + twos X := by rw [← hpa.out, dyE_pos hX]
  have ePb : pb = eb + twos Y := by rw [← hpb.out, dyE_pos hY]
  have eSa : sa = na := by rw [← hsa.out, decide_eq_true hX, Bool.and_true]
  have eSb : sb = nb := by rw [← hsb.out, decide_eq_true hY, Bool.and_true]
  obtain ⟨s, hs⟩ : ∃ s : Nat, pb - pa = s := ⟨(pb - pa).toNat, by omega⟩
  have hs7 : s ≤ 7000 := by omega
  have l1 := len_one (k := 8) (odd_lt' (c := 256) hlx.out (Nat.le_refl _)) (by decide) S1.out.1
  have l2 := len_one (k := 8) (odd_lt' (c := 256) hly.out (Nat.le_refl _)) (by decide) S2.out.1
  have hMl := odd_lt (c := 7256) hly.out hs7 rfl
  have hLl := odd_lt' (c := 7256) hlx.out (by decide)
  have hM0 : 0 < oddN Y * 2 ^ s := Nat.mul_pos (oddN_pos.2 hY) (Nat.pow_pos (by decide))
  have HSh := (fun W h => r1shl_calls A2 n2 c2 s (digs (oddN Y)) W h (by omega) hc2 (by omega))
  have hsw : IntKind.i64.wrap (pb - pa) = (s : Int) := by rw [wrap_z (by omega) (by omega), hs]
  rw [valL_digs, ← hsw] at HSh
  have hVZ : V = (sgnZ na (oddN X) + sgnZ nb (oddN Y * 2 ^ s)) * ((2 ^ (i + twos X) : Nat) : Int) := by
   rw [← hV.out]
   exact two_val (e0 := e0) na nb hX hY (by have := hi.out; have := hj.out; omega)
  have hPl : pa = e0 + ((i + twos X : Nat) : Int) := by have := hi.out; have := hj.out; omega
  have hZl : ∀ Z : Int, Z = sgnZ na (oddN X) + sgnZ nb (oddN Y * 2 ^ s) → ∀ n', (digs Z.natAbs).length = n' → n' ≤ 227 := by
   intro Z hZ n' h
   exact len_sum hLl hMl (by rw [hZ]; unfold sgnZ; split <;> split <;> omega) (by decide) h
  have hMl3 : ∀ n', (digs (oddN Y * 2 ^ s)).length = n' → n' ≤ 227 := fun n' h => len_one hMl (by decide) h
  generalize oddN Y * 2 ^ s = M at HSh hVZ hM0 hZl hMl3
  rw [← eSa, ← eSb] at hVZ hZl
  have HMk := (fun A n c W h hn hc => r2make_calls sb A n c (digs M) W h hn hc)
  rw [valL_digs] at HMk
  unfold RetW at HMk
  rw [decide_eq_true hM0, Bool.and_true] at HMk
  have HAd := (fun A n c W g h hn hc => r2add_calls sa sb A1 n1 c1 (digs (oddN X)) A n c (digs M) W g h (by omega) hn hc1 hc)
  rw [valL_digs, valL_digs] at HAd
  generalize sgnZ sa (oddN X) + sgnZ sb M = Z at HAd hVZ hZl
  unfold RetZ RetW at HAd
  have HM3 := (fun A n c W h hn hc => r3make_calls (decide (Z < 0) && decide (0 < Z.natAbs)) A n c (digs Z.natAbs) pa W h hn hc (by omega) (by omega))
  rw [valL_digs] at HM3
  replace HM3 := (fun A n c W h hn hc => (HM3 A n c W h hn hc).mono fun e w' h => retDy_of (neg' := decide (Z < 0)) h (fun h0 => by rw [decide_eq_true h0, Bool.and_true]))
  unfold RetDy at HM3
  generalize hsz : (decide (Z < 0) && decide (0 < Z.natAbs)) = sz at HAd HM3
  generalize hpz : dyE Z.natAbs pa = pz at HM3
  replace hsz := Lib.hid hsz
  replace hpz := Lib.hid hpz
  replace HSh := Lib.hid HSh
  replace HMk := Lib.hid HMk
  replace HAd := Lib.hid HAd
  replace HM3 := Lib.hid HM3
  replace hMl3 := Lib.hid hMl3
  replace hZl := Lib.hid (hZl Z rfl)
  replace hVZ := Lib.hid hVZ
  replace hPl := Lib.hid hPl
  have bp1 : -10000 ≤ pa := by omega
  have bp2 : pa ≤ 10000 := by omega
  have bp3 : -10000 ≤ pb := by omega
  have bp4 : pb ≤ 10000 := by omega
  clear ePa ePb eSa eSb hs hsw hMl hLl hM0 hne1 hne2 tX tY hlx hly hV hi hj hsa hsb hpa hpb hX hY
  clear hs7
  replace BX := BX.drew
  replace BY := BY.drew
  replace BR := BR.drew
  replace HBd := bl_drew HBd
  replace S1 := Lib.hid (S1.out.on (bl_drew (Below.refl _ _)))
  replace S2 := Lib.hid (S2.out.on (bl_drew (Below.refl _ _)))
  refine start_ (n := 15) (S := fun w' => w'.cell? ⟨g1, 0, none⟩ = some (.bool sa) ∧ w'.cell? ⟨g1, 1, none⟩ = some (.slice A1 n1 c1) ∧ w'.cell? ⟨g1, 2, none⟩ = some (.int .i64 pa) ∧ w'.cell? ⟨g2, 0, none⟩ = some (.bool sb) ∧ w'.cell? ⟨g2, 1, none⟩ = some (.slice A2 n2 c2) ∧ w'.cell? ⟨g2, 2, none⟩ = some (.int .i64 pb)) (ds := [14]) (bq 15 0) (by kernel_rfl) rfl rfl ⟨BX.cell 0, BX.cell 1, BX.cell 2, BY.cell 0, BY.cell 1, BY.cell 2⟩ (fun hHeld => ?_)
  refine pure_ (i := 0) (N := some 39) (v := ?_) (a' := ?_) (bq 15 1) rfl rfl (by kernel_rfl) (fun _ _ _ h => h) (Or.inl ⟨by rfl, ?_⟩) ?_ ?_
  rotate_left
  ·intro w'
   go_simp
   with_reducible rfl
  rotate_left
  ·simp only [Act.put, pA, pB, pC]
   rfl
  refine pure_ (i := 1) (N := some 40) (v := ?_) (a' := ?_) (bq 15 3) rfl rfl (by kernel_rfl) (fun _ _ _ h => h) (Or.inl ⟨by rfl, ?_⟩) ?_ ?_
  rotate_left
  ·intro w'
   go_simp
   with_reducible rfl
  rotate_left
  ·simp only [Act.put, pA, pB, pC]
   rfl
  refine take_ (i := 2) (N := some 41) (v := ?_) (a' := ?_) (bq 15 7) rfl rfl (by kernel_rfl) (fun _ _ _ h => h) (Or.inl ⟨by rfl, ?_⟩) hHeld ?_ ?_
  rotate_left
  ·rintro w' ⟨s0_, s1_, s2_, s3_, s4_, s5_⟩
   go_simp
   with_reducible rfl
  rotate_left
  ·simp only [Act.put, pA, pB, pC]
   rfl
  refine pure_ (i := 3) (N := some 42) (v := ?_) (a' := ?_) (bq 15 15) rfl rfl (by kernel_rfl) (fun _ _ _ h => h) (Or.inl ⟨by rfl, ?_⟩) ?_ ?_
  rotate_left
  ·intro w'
   go_simp
   with_reducible rfl
  rotate_left
  ·simp only [Act.put, pA, pB, pC]
   rfl
  refine pure_ (i := 4) (N := some 43) (v := ?_) (a' := ?_) (bq 15 31) rfl rfl (by kernel_rfl) (fun _ _ _ h => h) (Or.inl ⟨by rfl, ?_⟩) ?_ ?_
  rotate_left
  ·intro w'
   go_simp
   with_reducible rfl
  rotate_left
  ·simp only [Act.put, pA, pB, pC]
   rfl
  refine take_ (i := 5) (N := some 44) (v := ?_) (a' := ?_) (bq 15 63) rfl rfl (by kernel_rfl) (fun _ _ _ h => h) (Or.inl ⟨by rfl, ?_⟩) hHeld ?_ ?_
  rotate_left
  ·rintro w' ⟨s0_, s1_, s2_, s3_, s4_, s5_⟩
   go_simp
   with_reducible rfl
  rotate_left
  ·simp only [Act.put, pA, pB, pC]
   rfl
  refine pure_ (i := 6) (N := some 45) (v := ?_) (a' := ?_) (bq 15 127) rfl rfl (by kernel_rfl) (fun _ _ _ h => h) (Or.inl ⟨by rfl, ?_⟩) ?_ ?_
  rotate_left
  ·intro w'
   go_simp
   with_reducible rfl
  rotate_left
  ·simp only [Act.put, pA, pB, pC]
   rfl
  refine take_ (i := 7) (N := some 46) (v := ?_) (a' := ?_) (bq 15 255) rfl rfl (by kernel_rfl) (fun _ _ _ h => h) (Or.inl ⟨by rfl, ?_⟩) hHeld ?_ ?_
  rotate_left
  ·rintro w' ⟨s0_, s1_, s2_, s3_, s4_, s5_⟩
   go_simp
   with_reducible rfl
  rotate_left
  ·simp only [Act.put, pA, pB, pC]
   rfl
  refine pure_ (i := 8) (N := some 47) (v := ?_) (a' := ?_) (bq 15 511) rfl rfl (by kernel_rfl) (fun _ _ _ h => h) (Or.inl ⟨by rfl, ?_⟩) ?_ ?_
  rotate_left
  ·intro w'
   go_simp
   with_reducible rfl
  rotate_left
  ·simp only [Act.put, pA, pB, pC]
   rfl
  refine take_ (i := 9) (N := some 48) (v := ?_) (a' := ?_) (bq 15 1023) rfl rfl (by kernel_rfl) (fun _ _ _ h => h) (Or.inl ⟨by rfl, ?_⟩) hHeld ?_ ?_
  rotate_left
  ·rintro w' ⟨s0_, s1_, s2_, s3_, s4_, s5_⟩
   go_simp
   with_reducible rfl
  rotate_left
  ·simp only [Act.put, pA, pB, pC]
   rfl
  refine pure_ (i := 10) (N := some 49) (v := ?_) (a' := ?_) (bq 15 2047) rfl rfl (by kernel_rfl) (fun _ _ _ h => h) (Or.inl ⟨by rfl, ?_⟩) ?_ ?_
  rotate_left
  ·intro w'
   go_simp
   with_reducible rfl
  rotate_left
  ·simp only [Act.put, pA, pB, pC]
   rfl
  refine two_ (i := 11) (j := 13) (Ni := some 50) (Nj := some 8) (bq 15 4095) (bq 15 10239) rfl rfl rfl rfl (by kernel_rfl) (by decide) (by decide) (fun K hK => ?_) (fun K hK => ?_)
  ·skip
   refine goes_ Tryz.func131 (by kernel_rfl) rfl #[.slice A2 n2 c2, .int .i64 (IntKind.i64.wrap (pb - pa))] (by first | rfl | go_simp) rfl rfl (by simp only [List.map_toArray, List.map_cons, List.map_nil] <;> rfl) ?_
   with_reducible refine (HSh.out _ S2.out).mono ?_
   rintro e w3 ⟨A3, n3, c3, rfl, hc3, S3, hb⟩
   refine ⟨_, rfl, ?_⟩
   replace BX := BX.call hb
   replace BY := BY.call hb
   replace BR := BR.call hb
   replace HBd := bl_trans HBd hb
   replace S1 := Lib.hid (S1.out.on hb)
   replace S2 := Lib.hid (S2.out.on hb)
   replace S3 := Lib.hid S3
   have hl3 := hMl3.out n3 S3.out.1
   refine hK.out _ _ ⟨BX.cell 0, BX.cell 1, BX.cell 2, BY.cell 0, BY.cell 1, BY.cell 2⟩ (fun hHeld => ?_)
   clear hK K hb
   refine norm_ (a' := ?_) ?_ ?_
   rotate_left
   ·show Act.put _ (some 50) _ = _
    simp only [Act.put, pA, pB, pC]
    rfl
   refine two_ (i := 12) (j := 13) (Ni := some 51) (Nj := some 8) (bq 15 8191) (bq 15 12287) rfl rfl rfl rfl (by kernel_rfl) (by decide) (by decide) (fun K hK => ?_) (fun K hK => ?_)
   ·skip
    refine goes_ Tryz.func126 (by kernel_rfl) rfl #[.bool sb, .slice A3 n3 c3] (by first | rfl | go_simp) rfl rfl (by simp only [List.map_toArray, List.map_cons, List.map_nil] <;> rfl) ?_
    with_reducible refine (HMk.out A3 n3 c3 _ S3.out (by omega) hc3).mono ?_
    rintro e w4 ⟨A4, n4, c4, rfl, hc4, S4, hb⟩
    refine ⟨_, rfl, ?_⟩
    replace BX := BX.call hb
    replace BY := BY.call hb
    replace BR := BR.call hb
    replace HBd := bl_trans HBd hb
    replace S1 := Lib.hid (S1.out.on hb)
    replace S2 := Lib.hid (S2.out.on hb)
    replace S4 := Lib.hid S4
    have hl4 := hMl3.out n4 S4.out.1
    refine hK.out _ _ ⟨BX.cell 0, BX.cell 1, BX.cell 2, BY.cell 0, BY.cell 1, BY.cell 2⟩ (fun hHeld => ?_)
    clear hK K hb
    refine norm_ (a' := ?_) ?_ ?_
    rotate_left
    ·show Act.put _ (some 51) _ = _
     simp only [Act.put, pA, pB, pC]
     rfl
    refine one_ (i := 13) (N := some 8) (bq 15 16383) rfl rfl (by kernel_rfl) (by decide) (fun K hK => ?_)
    refine value_ (v := ?_) (w1 := ?_) (by rfl) rfl ?_ ?_
    rotate_left 2
    ·go_simp
     first | rfl | (constructor <;> rfl)
    have BX0 := BX
    have BR0 := BR
    have HBd0 := HBd
    have SA := S1
    have SB := S4
    have hgw := BX.lt
    have BM : Blk (w4.alloc (.cells #[.bool false, .slice none 0 0] 126)) w4.heap.size 126 _ := Blk.new w4 _ _
    replace BX := BX.alloc (.cells #[.bool false, .slice none 0 0] 126)
    replace BY := BY.alloc (.cells #[.bool false, .slice none 0 0] 126)
    replace BR := BR.alloc (.cells #[.bool false, .slice none 0 0] 126)
    replace HBd := bl_alloc HBd (.cells #[.bool false, .slice none 0 0] 126)
    replace S1 := Lib.hid (S1.out.on (bl_alloc (Below.refl _ _) (.cells #[.bool false, .slice none 0 0] 126)))
    replace S2 := Lib.hid (S2.out.on (bl_alloc (Below.refl _ _) (.cells #[.bool false, .slice none 0 0] 126)))
    replace S4 := Lib.hid (S4.out.on (bl_alloc (Below.refl _ _) (.cells #[.bool false, .slice none 0 0] 126)))
    obtain ⟨mc0, mc1⟩ : (w4.alloc (.cells #[.bool false, .slice none 0 0] 126)).cell? ⟨w4.heap.size, 0, none⟩ = some (.bool false) ∧ (w4.alloc (.cells #[.bool false, .slice none 0 0] 126)).cell? ⟨w4.heap.size, 1, none⟩ = some (.slice none 0 0) := ⟨BM.cell 0, BM.cell 1⟩
    obtain ⟨mf0, mf1⟩ : (w4.alloc (.cells #[.bool false, .slice none 0 0] 126)).frozen? ⟨w4.heap.size, 0, none⟩ = false ∧ (w4.alloc (.cells #[.bool false, .slice none 0 0] 126)).frozen? ⟨w4.heap.size, 1, none⟩ = false := ⟨BM.frozen 0, BM.frozen 1⟩
    refine hK.out _ _ ⟨BX.cell 0, BX.cell 1, BX.cell 2, BY.cell 0, BY.cell 1, BY.cell 2⟩ (fun hHeld => ?_)
    clear hK K
    refine norm_ (a' := ?_) ?_ ?_
    rotate_left
    ·show Act.put _ (some 8) _ = _
     simp only [Act.put, pA, pB, pC]
     rfl
    refine last_ (i := 14) (N := none) (bq 15 32767) rfl rfl (by kernel_rfl) (by decide) (fun K hK => ?_)
    refine skip_ (w1 := ?_) (by rfl) rfl ?_ ?_
    rotate_left
    ·go_simp
     rfl
    refine hK.out _ _ ?_
    clear hK K
    refine done_ (by kernel_rfl) ?_
    clear hHeld BM BY BX BR HBd S1 S2 S4 mc0 mc1 mf0 mf1
    have BX := BX0
    have BR := BR0
    have HBd := HBd0
    have BN : Blk (w4.alloc (.cells #[.bool sb, .slice A4 n4 c4] 126)) w4.heap.size 126 _ := Blk.new w4 _ _
    replace BX := BX.alloc (.cells #[.bool sb, .slice A4 n4 c4] 126)
    replace BR := BR.alloc (.cells #[.bool sb, .slice A4 n4 c4] 126)
    replace HBd := bl_alloc HBd (.cells #[.bool sb, .slice A4 n4 c4] 126)
    have S1 := Lib.hid (SA.out.on (bl_alloc (Below.refl _ _) (.cells #[.bool sb, .slice A4 n4 c4] 126)))
    have S4 := Lib.hid (SB.out.on (bl_alloc (Below.refl _ _) (.cells #[.bool sb, .slice A4 n4 c4] 126)))
    generalize w4.heap.size = gm at BN ⊢
    generalize w4.alloc (.cells #[.bool sb, .slice A4 n4 c4] 126) = W5 at BX BN BR HBd S1 S4 ⊢
    go_wp2_with fail
    replace BX := BX.drew
    replace BN := BN.drew
    replace BR := BR.drew
    replace HBd := bl_drew HBd
    replace S1 := Lib.hid (S1.out.on (bl_drew (Below.refl _ _)))
    replace S4 := Lib.hid (S4.out.on (bl_drew (Below.refl _ _)))
    refine start_ (n := 8) (S := fun w' => w'.cell? ⟨g1, 0, none⟩ = some (.bool sa) ∧ w'.cell? ⟨g1, 1, none⟩ = some (.slice A1 n1 c1) ∧ w'.cell? ⟨g1, 2, none⟩ = some (.int .i64 pa) ∧ w'.cell? ⟨gm, 0, none⟩ = some (.bool sb) ∧ w'.cell? ⟨gm, 1, none⟩ = some (.slice A4 n4 c4)) (ds := [7]) (bq 8 0) (by kernel_rfl) rfl rfl ⟨BX.cell 0, BX.cell 1, BX.cell 2, BN.cell 0, BN.cell 1⟩ (fun hHeld => ?_)
    refine pure_ (i := 0) (N := some 52) (v := ?_) (a' := ?_) (bq 8 1) rfl rfl (by kernel_rfl) (fun _ _ _ h => h) (Or.inl ⟨by rfl, ?_⟩) ?_ ?_
    rotate_left
    ·intro w'
     go_simp
     with_reducible rfl
    rotate_left
    ·simp only [Act.put, pA, pB, pC]
     rfl
    refine take_ (i := 1) (N := some 53) (v := ?_) (a' := ?_) (bq 8 3) rfl rfl (by kernel_rfl) (fun _ _ _ h => h) (Or.inl ⟨by rfl, ?_⟩) hHeld ?_ ?_
    rotate_left
    ·rintro w' ⟨s0_, s1_, s2_, s3_, s4_⟩
     go_simp
     with_reducible rfl
    rotate_left
    ·simp only [Act.put, pA, pB, pC]
     rfl
    refine take_ (i := 2) (N := some 54) (v := ?_) (a' := ?_) (bq 8 7) rfl rfl (by kernel_rfl) (fun _ _ _ h => h) (Or.inl ⟨by rfl, ?_⟩) hHeld ?_ ?_
    rotate_left
    ·rintro w' ⟨s0_, s1_, s2_, s3_, s4_⟩
     go_simp
     with_reducible rfl
    rotate_left
    ·simp only [Act.put, pA, pB, pC]
     rfl
    refine pure_ (i := 4) (N := some 56) (v := ?_) (a' := ?_) (bq 8 23) rfl rfl (by kernel_rfl) (fun _ _ _ h => h) (Or.inl ⟨by rfl, ?_⟩) ?_ ?_
    rotate_left
    ·intro w'
     go_simp
     with_reducible rfl
    rotate_left
    ·simp only [Act.put, pA, pB, pC]
     rfl
    refine take_ (i := 5) (N := some 57) (v := ?_) (a' := ?_) (bq 8 55) rfl rfl (by kernel_rfl) (fun _ _ _ h => h) (Or.inl ⟨by rfl, ?_⟩) hHeld ?_ ?_
    rotate_left
    ·rintro w' ⟨s0_, s1_, s2_, s3_, s4_⟩
     go_simp
     with_reducible rfl
    rotate_left
    ·simp only [Act.put, pA, pB, pC]
     rfl
    refine one_ (i := 3) (N := some 55) (bq 8 63) rfl rfl (by kernel_rfl) (by decide) (fun K hK => ?_)
    refine goes_ Tryz.func134 (by kernel_rfl) rfl #[.agg #[.bool sa, .slice A1 n1 c1], .agg #[.bool sb, .slice A4 n4 c4]] (by first | rfl | go_simp) rfl rfl (by simp only [List.map_toArray, List.map_cons, List.map_nil] <;> rfl) ?_
    with_reducible refine (HAd.out A4 n4 c4 _ S1.out S4.out (by omega) hc4).mono ?_
    rintro e w6 ⟨A5, n5, c5, rfl, hc5, S5, hb⟩
    refine ⟨_, rfl, ?_⟩
    replace S5 := Lib.hid S5
    replace BX := BX.call hb
    replace BN := BN.call hb
    replace BR := BR.call hb
    replace HBd := bl_trans HBd hb
    have hl5 := hZl.out n5 S5.out.1
    refine hK.out _ _ ⟨BX.cell 0, BX.cell 1, BX.cell 2, BN.cell 0, BN.cell 1⟩ (fun hHeld => ?_)
    clear hK K hb
    refine norm_ (a' := ?_) ?_ ?_
    rotate_left
    ·show Act.put _ (some 55) _ = _
     simp only [Act.put, pA, pB, pC]
     rfl
    refine one_ (i := 6) (N := some 58) (bq 8 127) rfl rfl (by kernel_rfl) (by decide) (fun K hK => ?_)
    refine goes_ Tryz.func125 (by kernel_rfl) rfl #[.agg #[.bool sz, .slice A5 n5 c5], .int .i64 pa] (by first | rfl | go_simp) rfl rfl (by simp only [List.map_toArray, List.map_cons, List.map_nil] <;> rfl) ?_
    with_reducible refine (HM3.out A5 n5 c5 _ S5.out (by omega) hc5).mono ?_
    rintro e w7 ⟨A6, n6, c6, rfl, hc6, S6, hb⟩
    refine ⟨_, rfl, ?_⟩
    replace S6 := Lib.hid S6
    replace BX := BX.call hb
    replace BN := BN.call hb
    replace BR := BR.call hb
    replace HBd := bl_trans HBd hb
    obtain ⟨zc0, zc1, zc2⟩ : w7.cell? ⟨w.heap.size + 1 + 1, 0, none⟩ = some (.bool false) ∧ w7.cell? ⟨w.heap.size + 1 + 1, 1, none⟩ = some (.slice none 0 0) ∧ w7.cell? ⟨w.heap.size + 1 + 1, 2, none⟩ = some (.int .i64 0) := ⟨BR.cell 0, BR.cell 1, BR.cell 2⟩
    obtain ⟨zf0, zf1, zf2⟩ : w7.frozen? ⟨w.heap.size + 1 + 1, 0, none⟩ = false ∧ w7.frozen? ⟨w.heap.size + 1 + 1, 1, none⟩ = false ∧ w7.frozen? ⟨w.heap.size + 1 + 1, 2, none⟩ = false := ⟨BR.frozen 0, BR.frozen 1, BR.frozen 2⟩
    refine hK.out _ _ ⟨BX.cell 0, BX.cell 1, BX.cell 2, BN.cell 0, BN.cell 1⟩ (fun hHeld => ?_)
    clear hK K hb
    refine norm_ (a' := ?_) ?_ ?_
    rotate_left
    ·show Act.put _ (some 58) _ = _
     simp only [Act.put, pA, pB, pC]
     rfl
    refine last_ (i := 7) (N := none) (bq 8 255) rfl rfl (by kernel_rfl) (by decide) (fun K hK => ?_)
    refine skip_ (w1 := ?_) (by rfl) rfl ?_ ?_
    rotate_left
    ·go_simp
     rfl
    refine hK.out _ _ ?_
    clear hK K
    refine done_ (by kernel_rfl) ?_
    go_wp2_with fail
    have B2 : Blk _ (w.heap.size + 1 + 1) 128 #[.bool sz, .slice A6 n6 c6, .int .i64 pz] := (((BR.set_ 0 (.bool sz)).set_ 1 (.slice A6 n6 c6)).set_ 2 (.int .i64 pz))
    have HB2 := (((HBd.setCell (p := ⟨w.heap.size + 1 + 1, 0, none⟩) (by show w.heap.size ≤ w.heap.size + 1 + 1; omega) (.bool sz)).setCell (p := ⟨w.heap.size + 1 + 1, 1, none⟩) (by show w.heap.size ≤ w.heap.size + 1 + 1; omega) (.slice A6 n6 c6)).setCell (p := ⟨w.heap.size + 1 + 1, 2, none⟩) (by show w.heap.size ≤ w.heap.size + 1 + 1; omega) (.int .i64 pz))
    have S7 := ((S6.out.store BR (noU3 _ _ _ _ _) 0 (.bool sz)).store (BR.set_ 0 _) (noU3 _ _ _ _ _) 1 (.slice A6 n6 c6)).store ((BR.set_ 0 _).set_ 1 _) (noU3 _ _ _ _ _) 2 (.int .i64 pz)
    exact bodyPost_ret (results_cell_row rfl _ _ (w.heap.size + 1 + 1) 128 _ (0, 0) _ rfl B2 Tryz.underlying128 rfl (by kernel_rfl)) rfl (retDy_z (Z := Z) (e := pa) ⟨A6, n6, c6, by rw [hsz.out, hpz.out], hc6, S7.more (by simp), HB2⟩ hVZ.out hPl.out)
   ·skip
    refine value_ (v := ?_) (w1 := ?_) (by rfl) rfl ?_ ?_
    rotate_left 2
    ·go_simp
     first | rfl | (constructor <;> rfl)
    have hgw := BX.lt
    have BM : Blk (w3.alloc (.cells #[.bool false, .slice none 0 0] 126)) w3.heap.size 126 _ := Blk.new w3 _ _
    replace BX := BX.alloc (.cells #[.bool false, .slice none 0 0] 126)
    replace BY := BY.alloc (.cells #[.bool false, .slice none 0 0] 126)
    replace BR := BR.alloc (.cells #[.bool false, .slice none 0 0] 126)
    replace HBd := bl_alloc HBd (.cells #[.bool false, .slice none 0 0] 126)
    replace S1 := Lib.hid (S1.out.on (bl_alloc (Below.refl _ _) (.cells #[.bool false, .slice none 0 0] 126)))
    replace S2 := Lib.hid (S2.out.on (bl_alloc (Below.refl _ _) (.cells #[.bool false, .slice none 0 0] 126)))
    replace S3 := Lib.hid (S3.out.on (bl_alloc (Below.refl _ _) (.cells #[.bool false, .slice none 0 0] 126)))
    refine hK.out _ _ ⟨BX.cell 0, BX.cell 1, BX.cell 2, BY.cell 0, BY.cell 1, BY.cell 2⟩ (fun hHeld => ?_)
    clear hK K
    refine norm_ (a' := ?_) ?_ ?_
    rotate_left
    ·show Act.put _ (some 8) _ = _
     simp only [Act.put, pA, pB, pC]
     rfl
    refine one_ (i := 12) (N := some 51) (bq 15 16383) rfl rfl (by kernel_rfl) (by decide) (fun K hK => ?_)
    refine goes_ Tryz.func126 (by kernel_rfl) rfl #[.bool sb, .slice A3 n3 c3] (by first | rfl | go_simp) rfl rfl (by simp only [List.map_toArray, List.map_cons, List.map_nil] <;> rfl) ?_
    with_reducible refine (HMk.out A3 n3 c3 _ S3.out (by omega) hc3).mono ?_
    rintro e w4 ⟨A4, n4, c4, rfl, hc4, S4, hb⟩
    refine ⟨_, rfl, ?_⟩
    replace BX := BX.call hb
    replace BY := BY.call hb
    replace BR := BR.call hb
    replace HBd := bl_trans HBd hb
    replace S1 := Lib.hid (S1.out.on hb)
    replace S2 := Lib.hid (S2.out.on hb)
    replace S4 := Lib.hid S4
    have hl4 := hMl3.out n4 S4.out.1
    replace BM := BM.call hb
    obtain ⟨mc0, mc1⟩ : w4.cell? ⟨w3.heap.size, 0, none⟩ = some (.bool false) ∧ w4.cell? ⟨w3.heap.size, 1, none⟩ = some (.slice none 0 0) := ⟨BM.cell 0, BM.cell 1⟩
    obtain ⟨mf0, mf1⟩ : w4.frozen? ⟨w3.heap.size, 0, none⟩ = false ∧ w4.frozen? ⟨w3.heap.size, 1, none⟩ = false := ⟨BM.frozen 0, BM.frozen 1⟩
    refine hK.out _ _ ⟨BX.cell 0, BX.cell 1, BX.cell 2, BY.cell 0, BY.cell 1, BY.cell 2⟩ (fun hHeld => ?_)
    clear hK K hb
    refine norm_ (a' := ?_) ?_ ?_
    rotate_left
    ·show Act.put _ (some 51) _ = _
     simp only [Act.put, pA, pB, pC]
     rfl
    refine last_ (i := 14) (N := none) (bq 15 32767) rfl rfl (by kernel_rfl) (by decide) (fun K hK => ?_)
    refine skip_ (w1 := ?_) (by rfl) rfl ?_ ?_
    rotate_left
    ·go_simp
     rfl
    refine hK.out _ _ ?_
    clear hK K
    refine done_ (by kernel_rfl) ?_
    clear hHeld
    have e1 : g1 ≠ w3.heap.size := by omega
    have er : w.heap.size + 1 + 1 ≠ w3.heap.size := by omega
    replace S1 := Lib.hid ((S1.out.st BM (noU2 _ _ _ _) 0 (.bool sb)).st (BM.set_ 0 _) (noU2 _ _ _ _) 1 (.slice A4 n4 c4))
    replace S4 := Lib.hid ((S4.out.st BM (noU2 _ _ _ _) 0 (.bool sb)).st (BM.set_ 0 _) (noU2 _ _ _ _) 1 (.slice A4 n4 c4))
    have BN : Blk _ w3.heap.size 126 #[.bool sb, .slice A4 n4 c4] := (BM.set_ 0 (.bool sb)).set_ 1 (.slice A4 n4 c4)
    replace BX := (BX.far (p := ⟨w3.heap.size, 0, none⟩) e1 (.bool sb)).far (p := ⟨w3.heap.size, 1, none⟩) e1 (.slice A4 n4 c4)
    replace BR := (BR.far (p := ⟨w3.heap.size, 0, none⟩) er (.bool sb)).far (p := ⟨w3.heap.size, 1, none⟩) er (.slice A4 n4 c4)
    replace HBd := (HBd.setCell (p := ⟨w3.heap.size, 0, none⟩) (by show w.heap.size ≤ w3.heap.size; omega) (.bool sb)).setCell (p := ⟨w3.heap.size, 1, none⟩) (by show w.heap.size ≤ w3.heap.size; omega) (.slice A4 n4 c4)
    clear BM BY e1 er mc0 mc1 mf0 mf1
    generalize World.setCell _ _ _ = W5 at BX BN BR HBd S1 S4 ⊢
    generalize w3.heap.size = gm at BN ⊢
    go_wp2_with fail
    replace BX := BX.drew
    replace BN := BN.drew
    replace BR := BR.drew
    replace HBd := bl_drew HBd
    replace S1 := Lib.hid (S1.out.on (bl_drew (Below.refl _ _)))
    replace S4 := Lib.hid (S4.out.on (bl_drew (Below.refl _ _)))
    refine start_ (n := 8) (S := fun w' => w'.cell? ⟨g1, 0, none⟩ = some (.bool sa) ∧ w'.cell? ⟨g1, 1, none⟩ = some (.slice A1 n1 c1) ∧ w'.cell? ⟨g1, 2, none⟩ = some (.int .i64 pa) ∧ w'.cell? ⟨gm, 0, none⟩ = some (.bool sb) ∧ w'.cell? ⟨gm, 1, none⟩ = some (.slice A4 n4 c4)) (ds := [7]) (bq 8 0) (by kernel_rfl) rfl rfl ⟨BX.cell 0, BX.cell 1, BX.cell 2, BN.cell 0, BN.cell 1⟩ (fun hHeld => ?_)
    refine pure_ (i := 0) (N := some 52) (v := ?_) (a' := ?_) (bq 8 1) rfl rfl (by kernel_rfl) (fun _ _ _ h => h) (Or.inl ⟨by rfl, ?_⟩) ?_ ?_
    rotate_left
    ·intro w'
     go_simp
     with_reducible rfl
    rotate_left
    ·simp only [Act.put, pA, pB, pC]
     rfl
    refine take_ (i := 1) (N := some 53) (v := ?_) (a' := ?_) (bq 8 3) rfl rfl (by kernel_rfl) (fun _ _ _ h => h) (Or.inl ⟨by rfl, ?_⟩) hHeld ?_ ?_
    rotate_left
    ·rintro w' ⟨s0_, s1_, s2_, s3_, s4_⟩
     go_simp
     with_reducible rfl
    rotate_left
    ·simp only [Act.put, pA, pB, pC]
     rfl
    refine take_ (i := 2) (N := some 54) (v := ?_) (a' := ?_) (bq 8 7) rfl rfl (by kernel_rfl) (fun _ _ _ h => h) (Or.inl ⟨by rfl, ?_⟩) hHeld ?_ ?_
    rotate_left
    ·rintro w' ⟨s0_, s1_, s2_, s3_, s4_⟩
     go_simp
     with_reducible rfl
    rotate_left
    ·simp only [Act.put, pA, pB, pC]
     rfl
    refine pure_ (i := 4) (N := some 56) (v := ?_) (a' := ?_) (bq 8 23) rfl rfl (by kernel_rfl) (fun _ _ _ h => h) (Or.inl ⟨by rfl, ?_⟩) ?_ ?_
    rotate_left
    ·intro w'
     go_simp
     with_reducible rfl
    rotate_left
    ·simp only [Act.put, pA, pB, pC]
     rfl
    refine take_ (i := 5) (N := some 57) (v := ?_) (a' := ?_) (bq 8 55) rfl rfl (by kernel_rfl) (fun _ _ _ h => h) (Or.inl ⟨by rfl, ?_⟩) hHeld ?_ ?_
    rotate_left
    ·rintro w' ⟨s0_, s1_, s2_, s3_, s4_⟩
     go_simp
     with_reducible rfl
    rotate_left
    ·simp only [Act.put, pA, pB, pC]
     rfl
    refine one_ (i := 3) (N := some 55) (bq 8 63) rfl rfl (by kernel_rfl) (by decide) (fun K hK => ?_)
    refine goes_ Tryz.func134 (by kernel_rfl) rfl #[.agg #[.bool sa, .slice A1 n1 c1], .agg #[.bool sb, .slice A4 n4 c4]] (by first | rfl | go_simp) rfl rfl (by simp only [List.map_toArray, List.map_cons, List.map_nil] <;> rfl) ?_
    with_reducible refine (HAd.out A4 n4 c4 _ S1.out S4.out (by omega) hc4).mono ?_
    rintro e w6 ⟨A5, n5, c5, rfl, hc5, S5, hb⟩
    refine ⟨_, rfl, ?_⟩
    replace S5 := Lib.hid S5
    replace BX := BX.call hb
    replace BN := BN.call hb
    replace BR := BR.call hb
    replace HBd := bl_trans HBd hb
    have hl5 := hZl.out n5 S5.out.1
    refine hK.out _ _ ⟨BX.cell 0, BX.cell 1, BX.cell 2, BN.cell 0, BN.cell 1⟩ (fun hHeld => ?_)
    clear hK K hb
    refine norm_ (a' := ?_) ?_ ?_
    rotate_left
    ·show Act.put _ (some 55) _ = _
     simp only [Act.put, pA, pB, pC]
     rfl
    refine one_ (i := 6) (N := some 58) (bq 8 127) rfl rfl (by kernel_rfl) (by decide) (fun K hK => ?_)
    refine goes_ Tryz.func125 (by kernel_rfl) rfl #[.agg #[.bool sz, .slice A5 n5 c5], .int .i64 pa] (by first | rfl | go_simp) rfl rfl (by simp only [List.map_toArray, List.map_cons, List.map_nil] <;> rfl) ?_
    with_reducible refine (HM3.out A5 n5 c5 _ S5.out (by omega) hc5).mono ?_
    rintro e w7 ⟨A6, n6, c6, rfl, hc6, S6, hb⟩
    refine ⟨_, rfl, ?_⟩
    replace S6 := Lib.hid S6
    replace BX := BX.call hb
    replace BN := BN.call hb
    replace BR := BR.call hb
    replace HBd := bl_trans HBd hb
    obtain ⟨zc0, zc1, zc2⟩ : w7.cell? ⟨w.heap.size + 1 + 1, 0, none⟩ = some (.bool false) ∧ w7.cell? ⟨w.heap.size + 1 + 1, 1, none⟩ = some (.slice none 0 0) ∧ w7.cell? ⟨w.heap.size + 1 + 1, 2, none⟩ = some (.int .i64 0) := ⟨BR.cell 0, BR.cell 1, BR.cell 2⟩
    obtain ⟨zf0, zf1, zf2⟩ : w7.frozen? ⟨w.heap.size + 1 + 1, 0, none⟩ = false ∧ w7.frozen? ⟨w.heap.size + 1 + 1, 1, none⟩ = false ∧ w7.frozen? ⟨w.heap.size + 1 + 1, 2, none⟩ = false := ⟨BR.frozen 0, BR.frozen 1, BR.frozen 2⟩
    refine hK.out _ _ ⟨BX.cell 0, BX.cell 1, BX.cell 2, BN.cell 0, BN.cell 1⟩ (fun hHeld => ?_)
    clear hK K hb
    refine norm_ (a' := ?_) ?_ ?_
    rotate_left
    ·show Act.put _ (some 58) _ = _
     simp only [Act.put, pA, pB, pC]
     rfl
    refine last_ (i := 7) (N := none) (bq 8 255) rfl rfl (by kernel_rfl) (by decide) (fun K hK => ?_)
    refine skip_ (w1 := ?_) (by rfl) rfl ?_ ?_
    rotate_left
    ·go_simp
     rfl
    refine hK.out _ _ ?_
    clear hK K
    refine done_ (by kernel_rfl) ?_
    go_wp2_with fail
    have B2 : Blk _ (w.heap.size + 1 + 1) 128 #[.bool sz, .slice A6 n6 c6, .int .i64 pz] := (((BR.set_ 0 (.bool sz)).set_ 1 (.slice A6 n6 c6)).set_ 2 (.int .i64 pz))
    have HB2 := (((HBd.setCell (p := ⟨w.heap.size + 1 + 1, 0, none⟩) (by show w.heap.size ≤ w.heap.size + 1 + 1; omega) (.bool sz)).setCell (p := ⟨w.heap.size + 1 + 1, 1, none⟩) (by show w.heap.size ≤ w.heap.size + 1 + 1; omega) (.slice A6 n6 c6)).setCell (p := ⟨w.heap.size + 1 + 1, 2, none⟩) (by show w.heap.size ≤ w.heap.size + 1 + 1; omega) (.int .i64 pz))
    have S7 := ((S6.out.store BR (noU3 _ _ _ _ _) 0 (.bool sz)).store (BR.set_ 0 _) (noU3 _ _ _ _ _) 1 (.slice A6 n6 c6)).store ((BR.set_ 0 _).set_ 1 _) (noU3 _ _ _ _ _) 2 (.int .i64 pz)
    exact bodyPost_ret (results_cell_row rfl _ _ (w.heap.size + 1 + 1) 128 _ (0, 0) _ rfl B2 Tryz.underlying128 rfl (by kernel_rfl)) rfl (retDy_z (Z := Z) (e := pa) ⟨A6, n6, c6, by rw [hsz.out, hpz.out], hc6, S7.more (by simp), HB2⟩ hVZ.out hPl.out)
  ·skip
   refine value_ (v := ?_) (w1 := ?_) (by rfl) rfl ?_ ?_
   rotate_left 2
   ·go_simp
    first | rfl | (constructor <;> rfl)
   have hgw : g1 < W.heap.size := BX.lt
   have BM : Blk (W.alloc (.cells #[.bool false, .slice none 0 0] 126)).drew W.heap.size 126 #[.bool false, .slice none 0 0] := Blk.new W _ _
   replace BX : Blk (W.alloc (.cells #[.bool false, .slice none 0 0] 126)).drew g1 128 #[.bool sa, .slice A1 n1 c1, .int .i64 pa] := BX.alloc (.cells #[.bool false, .slice none 0 0] 126)
   replace BY : Blk (W.alloc (.cells #[.bool false, .slice none 0 0] 126)).drew g2 128 #[.bool sb, .slice A2 n2 c2, .int .i64 pb] := BY.alloc (.cells #[.bool false, .slice none 0 0] 126)
   replace BR : Blk (W.alloc (.cells #[.bool false, .slice none 0 0] 126)).drew (w.heap.size + 1 + 1) 128 #[.bool false, .slice none 0 0, .int .i64 0] := BR.alloc (.cells #[.bool false, .slice none 0 0] 126)
   replace HBd : Below w.heap.size w (W.alloc (.cells #[.bool false, .slice none 0 0] 126)).drew := bl_alloc HBd (.cells #[.bool false, .slice none 0 0] 126)
   replace S1 : Hid (SlU (W.alloc (.cells #[.bool false, .slice none 0 0] 126)).drew (W.alloc (.cells #[.bool false, .slice none 0 0] 126)).drew.heap.size A1 n1 (digs (oddN X))) := Lib.hid (S1.out.on (bl_alloc (Below.refl _ _) (.cells #[.bool false, .slice none 0 0] 126)))
   replace S2 : Hid (SlU (W.alloc (.cells #[.bool false, .slice none 0 0] 126)).drew (W.alloc (.cells #[.bool false, .slice none 0 0] 126)).drew.heap.size A2 n2 (digs (oddN Y))) := Lib.hid (S2.out.on (bl_alloc (Below.refl _ _) (.cells #[.bool false, .slice none 0 0] 126)))
   refine hK.out _ _ ⟨BX.cell 0, BX.cell 1, BX.cell 2, BY.cell 0, BY.cell 1, BY.cell 2⟩ (fun hHeld => ?_)
   clear hK K
   refine norm_ (a' := ?_) ?_ ?_
   rotate_left
   ·show Act.put _ (some 8) _ = _
    simp only [Act.put, pA, pB, pC]
    rfl
   refine one_ (i := 11) (N := some 50) (bq 15 12287) rfl rfl (by kernel_rfl) (by decide) (fun K hK => ?_)
   refine goes_ Tryz.func131 (by kernel_rfl) rfl #[.slice A2 n2 c2, .int .i64 (IntKind.i64.wrap (pb - pa))] (by first | rfl | go_simp) rfl rfl (by simp only [List.map_toArray, List.map_cons, List.map_nil] <;> rfl) ?_
   with_reducible refine (HSh.out _ S2.out).mono ?_
   rintro e w3 ⟨A3, n3, c3, rfl, hc3, S3, hb⟩
   refine ⟨_, rfl, ?_⟩
   replace BX := BX.call hb
   replace BY := BY.call hb
   replace BR := BR.call hb
   replace HBd := bl_trans HBd hb
   replace S1 := Lib.hid (S1.out.on hb)
   replace S2 := Lib.hid (S2.out.on hb)
   replace S3 := Lib.hid S3
   have hl3 := hMl3.out n3 S3.out.1
   replace BM := BM.call hb
   refine hK.out _ _ ⟨BX.cell 0, BX.cell 1, BX.cell 2, BY.cell 0, BY.cell 1, BY.cell 2⟩ (fun hHeld => ?_)
   clear hK K hb
   refine norm_ (a' := ?_) ?_ ?_
   rotate_left
   ·show Act.put _ (some 50) _ = _
    simp only [Act.put, pA, pB, pC]
    rfl
   refine one_ (i := 12) (N := some 51) (bq 15 16383) rfl rfl (by kernel_rfl) (by decide) (fun K hK => ?_)
   refine goes_ Tryz.func126 (by kernel_rfl) rfl #[.bool sb, .slice A3 n3 c3] (by first | rfl | go_simp) rfl rfl (by simp only [List.map_toArray, List.map_cons, List.map_nil] <;> rfl) ?_
   with_reducible refine (HMk.out A3 n3 c3 _ S3.out (by omega) hc3).mono ?_
   rintro e w4 ⟨A4, n4, c4, rfl, hc4, S4, hb⟩
   refine ⟨_, rfl, ?_⟩
   replace BX := BX.call hb
   replace BY := BY.call hb
   replace BR := BR.call hb
   replace HBd := bl_trans HBd hb
   replace S1 := Lib.hid (S1.out.on hb)
   replace S2 := Lib.hid (S2.out.on hb)
   replace S4 := Lib.hid S4
   have hl4 := hMl3.out n4 S4.out.1
   replace BM := BM.call hb
   obtain ⟨mc0, mc1⟩ : w4.cell? ⟨W.heap.size, 0, none⟩ = some (.bool false) ∧ w4.cell? ⟨W.heap.size, 1, none⟩ = some (.slice none 0 0) := ⟨BM.cell 0, BM.cell 1⟩
   obtain ⟨mf0, mf1⟩ : w4.frozen? ⟨W.heap.size, 0, none⟩ = false ∧ w4.frozen? ⟨W.heap.size, 1, none⟩ = false := ⟨BM.frozen 0, BM.frozen 1⟩
   refine hK.out _ _ ⟨BX.cell 0, BX.cell 1, BX.cell 2, BY.cell 0, BY.cell 1, BY.cell 2⟩ (fun hHeld => ?_)
   clear hK K hb
   refine norm_ (a' := ?_) ?_ ?_
   rotate_left
   ·show Act.put _ (some 51) _ = _
    simp only [Act.put, pA, pB, pC]
    rfl
   refine last_ (i := 14) (N := none) (bq 15 32767) rfl rfl (by kernel_rfl) (by decide) (fun K hK => ?_)
   refine skip_ (w1 := ?_) (by rfl) rfl ?_ ?_
   rotate_left
   ·go_simp
    rfl
   refine hK.out _ _ ?_
   clear hK K
   refine done_ (by kernel_rfl) ?_
   clear hHeld
   have e1 : g1 ≠ W.heap.size := by omega
   have er : w.heap.size + 1 + 1 ≠ W.heap.size := by omega
   replace S1 := Lib.hid ((S1.out.st BM (noU2 _ _ _ _) 0 (.bool sb)).st (BM.set_ 0 _) (noU2 _ _ _ _) 1 (.slice A4 n4 c4))
   replace S4 := Lib.hid ((S4.out.st BM (noU2 _ _ _ _) 0 (.bool sb)).st (BM.set_ 0 _) (noU2 _ _ _ _) 1 (.slice A4 n4 c4))
   have BN : Blk _ W.heap.size 126 #[.bool sb, .slice A4 n4 c4] := (BM.set_ 0 (.bool sb)).set_ 1 (.slice A4 n4 c4)
   replace BX := (BX.far (p := ⟨W.heap.size, 0, none⟩) e1 (.bool sb)).far (p := ⟨W.heap.size, 1, none⟩) e1 (.slice A4 n4 c4)
   replace BR := (BR.far (p := ⟨W.heap.size, 0, none⟩) er (.bool sb)).far (p := ⟨W.heap.size, 1, none⟩) er (.slice A4 n4 c4)
   replace HBd := (HBd.setCell (p := ⟨W.heap.size, 0, none⟩) (by show w.heap.size ≤ W.heap.size; omega) (.bool sb)).setCell (p := ⟨W.heap.size, 1, none⟩) (by show w.heap.size ≤ W.heap.size; omega) (.slice A4 n4 c4)
   clear BM BY e1 er mc0 mc1 mf0 mf1
   generalize World.setCell _ _ _ = W5 at BX BN BR HBd S1 S4 ⊢
   generalize W.heap.size = gm at BN ⊢
   go_wp2_with fail
   replace BX := BX.drew
   replace BN := BN.drew
   replace BR := BR.drew
   replace HBd := bl_drew HBd
   replace S1 := Lib.hid (S1.out.on (bl_drew (Below.refl _ _)))
   replace S4 := Lib.hid (S4.out.on (bl_drew (Below.refl _ _)))
   refine start_ (n := 8) (S := fun w' => w'.cell? ⟨g1, 0, none⟩ = some (.bool sa) ∧ w'.cell? ⟨g1, 1, none⟩ = some (.slice A1 n1 c1) ∧ w'.cell? ⟨g1, 2, none⟩ = some (.int .i64 pa) ∧ w'.cell? ⟨gm, 0, none⟩ = some (.bool sb) ∧ w'.cell? ⟨gm, 1, none⟩ = some (.slice A4 n4 c4)) (ds := [7]) (bq 8 0) (by kernel_rfl) rfl rfl ⟨BX.cell 0, BX.cell 1, BX.cell 2, BN.cell 0, BN.cell 1⟩ (fun hHeld => ?_)
   refine pure_ (i := 0) (N := some 52) (v := ?_) (a' := ?_) (bq 8 1) rfl rfl (by kernel_rfl) (fun _ _ _ h => h) (Or.inl ⟨by rfl, ?_⟩) ?_ ?_
   rotate_left
   ·intro w'
    go_simp
    with_reducible rfl
   rotate_left
   ·simp only [Act.put, pA, pB, pC]
    rfl
   refine take_ (i := 1) (N := some 53) (v := ?_) (a' := ?_) (bq 8 3) rfl rfl (by kernel_rfl) (fun _ _ _ h => h) (Or.inl ⟨by rfl, ?_⟩) hHeld ?_ ?_
   rotate_left
   ·rintro w' ⟨s0_, s1_, s2_, s3_, s4_⟩
    go_simp
    with_reducible rfl
   rotate_left
   ·simp only [Act.put, pA, pB, pC]
    rfl
   refine take_ (i := 2) (N := some 54) (v := ?_) (a' := ?_) (bq 8 7) rfl rfl (by kernel_rfl) (fun _ _ _ h => h) (Or.inl ⟨by rfl, ?_⟩) hHeld ?_ ?_
   rotate_left
   ·rintro w' ⟨s0_, s1_, s2_, s3_, s4_⟩
    go_simp
    with_reducible rfl
   rotate_left
   ·simp only [Act.put, pA, pB, pC]
    rfl
   refine pure_ (i := 4) (N := some 56) (v := ?_) (a' := ?_) (bq 8 23) rfl rfl (by kernel_rfl) (fun _ _ _ h => h) (Or.inl ⟨by rfl, ?_⟩) ?_ ?_
   rotate_left
   ·intro w'
    go_simp
    with_reducible rfl
   rotate_left
   ·simp only [Act.put, pA, pB, pC]
    rfl
   refine take_ (i := 5) (N := some 57) (v := ?_) (a' := ?_) (bq 8 55) rfl rfl (by kernel_rfl) (fun _ _ _ h => h) (Or.inl ⟨by rfl, ?_⟩) hHeld ?_ ?_
   rotate_left
   ·rintro w' ⟨s0_, s1_, s2_, s3_, s4_⟩
    go_simp
    with_reducible rfl
   rotate_left
   ·simp only [Act.put, pA, pB, pC]
    rfl
   refine one_ (i := 3) (N := some 55) (bq 8 63) rfl rfl (by kernel_rfl) (by decide) (fun K hK => ?_)
   refine goes_ Tryz.func134 (by kernel_rfl) rfl #[.agg #[.bool sa, .slice A1 n1 c1], .agg #[.bool sb, .slice A4 n4 c4]] (by first | rfl | go_simp) rfl rfl (by simp only [List.map_toArray, List.map_cons, List.map_nil] <;> rfl) ?_
   with_reducible refine (HAd.out A4 n4 c4 _ S1.out S4.out (by omega) hc4).mono ?_
   rintro e w6 ⟨A5, n5, c5, rfl, hc5, S5, hb⟩
   refine ⟨_, rfl, ?_⟩
   replace S5 := Lib.hid S5
   replace BX := BX.call hb
   replace BN := BN.call hb
   replace BR := BR.call hb
   replace HBd := bl_trans HBd hb
   have hl5 := hZl.out n5 S5.out.1
   refine hK.out _ _ ⟨BX.cell 0, BX.cell 1, BX.cell 2, BN.cell 0, BN.cell 1⟩ (fun hHeld => ?_)
   clear hK K hb
   refine norm_ (a' := ?_) ?_ ?_
   rotate_left
   ·show Act.put _ (some 55) _ = _
    simp only [Act.put, pA, pB, pC]
    rfl
   refine one_ (i := 6) (N := some 58) (bq 8 127) rfl rfl (by kernel_rfl) (by decide) (fun K hK => ?_)
   refine goes_ Tryz.func125 (by kernel_rfl) rfl #[.agg #[.bool sz, .slice A5 n5 c5], .int .i64 pa] (by first | rfl | go_simp) rfl rfl (by simp only [List.map_toArray, List.map_cons, List.map_nil] <;> rfl) ?_
   with_reducible refine (HM3.out A5 n5 c5 _ S5.out (by omega) hc5).mono ?_
   rintro e w7 ⟨A6, n6, c6, rfl, hc6, S6, hb⟩
   refine ⟨_, rfl, ?_⟩
   replace S6 := Lib.hid S6
   replace BX := BX.call hb
   replace BN := BN.call hb
   replace BR := BR.call hb
   replace HBd := bl_trans HBd hb
   obtain ⟨zc0, zc1, zc2⟩ : w7.cell? ⟨w.heap.size + 1 + 1, 0, none⟩ = some (.bool false) ∧ w7.cell? ⟨w.heap.size + 1 + 1, 1, none⟩ = some (.slice none 0 0) ∧ w7.cell? ⟨w.heap.size + 1 + 1, 2, none⟩ = some (.int .i64 0) := ⟨BR.cell 0, BR.cell 1, BR.cell 2⟩
   obtain ⟨zf0, zf1, zf2⟩ : w7.frozen? ⟨w.heap.size + 1 + 1, 0, none⟩ = false ∧ w7.frozen? ⟨w.heap.size + 1 + 1, 1, none⟩ = false ∧ w7.frozen? ⟨w.heap.size + 1 + 1, 2, none⟩ = false := ⟨BR.frozen 0, BR.frozen 1, BR.frozen 2⟩
   refine hK.out _ _ ⟨BX.cell 0, BX.cell 1, BX.cell 2, BN.cell 0, BN.cell 1⟩ (fun hHeld => ?_)
   clear hK K hb
   refine norm_ (a' := ?_) ?_ ?_
   rotate_left
   ·show Act.put _ (some 58) _ = _
    simp only [Act.put, pA, pB, pC]
    rfl
   refine last_ (i := 7) (N := none) (bq 8 255) rfl rfl (by kernel_rfl) (by decide) (fun K hK => ?_)
   refine skip_ (w1 := ?_) (by rfl) rfl ?_ ?_
   rotate_left
   ·go_simp
    rfl
   refine hK.out _ _ ?_
   clear hK K
   refine done_ (by kernel_rfl) ?_
   go_wp2_with fail
   have B2 : Blk _ (w.heap.size + 1 + 1) 128 #[.bool sz, .slice A6 n6 c6, .int .i64 pz] := (((BR.set_ 0 (.bool sz)).set_ 1 (.slice A6 n6 c6)).set_ 2 (.int .i64 pz))
   have HB2 := (((HBd.setCell (p := ⟨w.heap.size + 1 + 1, 0, none⟩) (by show w.heap.size ≤ w.heap.size + 1 + 1; omega) (.bool sz)).setCell (p := ⟨w.heap.size + 1 + 1, 1, none⟩) (by show w.heap.size ≤ w.heap.size + 1 + 1; omega) (.slice A6 n6 c6)).setCell (p := ⟨w.heap.size + 1 + 1, 2, none⟩) (by show w.heap.size ≤ w.heap.size + 1 + 1; omega) (.int .i64 pz))
   have S7 := ((S6.out.store BR (noU3 _ _ _ _ _) 0 (.bool sz)).store (BR.set_ 0 _) (noU3 _ _ _ _ _) 1 (.slice A6 n6 c6)).store ((BR.set_ 0 _).set_ 1 _) (noU3 _ _ _ _ _) 2 (.int .i64 pz)
   exact bodyPost_ret (results_cell_row rfl _ _ (w.heap.size + 1 + 1) 128 _ (0, 0) _ rfl B2 Tryz.underlying128 rfl (by kernel_rfl)) rfl (retDy_z (Z := Z) (e := pa) ⟨A6, n6, c6, by rw [hsz.out, hpz.out], hc6, S7.more (by simp), HB2⟩ hVZ.out hPl.out)
end Go.Proofs.YtagojbgmgkkdpaaGreat.Wk

/- Walk: the reference's product of two dyadic numbers. -/
namespace Go.Proofs.YtagojbgmgkkdpaaGreat.Wk
open Go.RowKit Go.Proofs.Pl Go.Proofs.YtagojbgmgkkdpaaGreatW.PrintLast
set_option linter.unusedSimpArgs false
set_option linter.unusedVariables false

theorem dyE_bd {n b : Nat} {e c : Int} (h : n < 2 ^ b) (h1 : -c ≤ e) (h2 : e ≤ c) : -c ≤ dyE n e ∧ dyE n e ≤ c + b := by
 have := twos_lt h
 unfold dyE
 split <;> omega
theorem prod_lt {x y a b c : Nat} (hx : x < 2 ^ a) (hy : y < 2 ^ b) (hc : a + b = c) : x * y < 2 ^ c := by
 rw [← hc, Nat.pow_add]
 exact Nat.mul_lt_mul'' hx hy
theorem retDy_mul {w w' : World} {na nb : Bool} {X Y : Nat} {ea eb : Int} {en : Ending} (h : RetDy w (((na && decide (0 < X)) != (nb && decide (0 < Y))) && decide (0 < oddN X * oddN Y)) (oddN X * oddN Y) (dyE X ea + dyE Y eb) en w') : RetDy w (na != nb) (X * Y) (ea + eb) en w' := by
 by_cases h0 : 0 < X ∧ 0 < Y
 ·obtain ⟨hx, hy⟩ := h0
  have hP : 0 < oddN X * oddN Y := Nat.mul_pos (oddN_pos.2 hx) (oddN_pos.2 hy)
  have hXY : X * Y = oddN X * oddN Y * 2 ^ (twos X + twos Y) := by
   conv => lhs; rw [← odd_twos X, ← odd_twos Y]
   rw [Nat.pow_add]
   ac_rfl
  obtain ⟨d1, d2⟩ := dy_pow (oddN X * oddN Y) (twos X + twos Y) (ea + eb)
  rw [decide_eq_true hx, decide_eq_true hy, decide_eq_true hP, Bool.and_true, Bool.and_true, Bool.and_true, dyE_pos hx, dyE_pos hy] at h
  unfold RetDy at h ⊢
  have hz : decide (0 < X * Y) = decide (0 < oddN X * oddN Y) := by rw [decide_eq_true hP, decide_eq_true (Nat.mul_pos hx hy)]
  have he : ea + eb + ((twos X + twos Y : Nat) : Int) = ea + twos X + (eb + twos Y) := by omega
  rw [hz, hXY, d1, d2, he]
  exact h
 ·have hz : X * Y = 0 := by
   rcases Nat.eq_zero_or_pos X with h1 | h1
   ·rw [h1, Nat.zero_mul]
   ·rw [show Y = 0 by omega, Nat.mul_zero]
  have hz' : oddN X * oddN Y = 0 := by
   rcases Nat.eq_zero_or_pos X with h1 | h1
   ·rw [h1, oddN_zero, Nat.zero_mul]
   ·rw [show Y = 0 by omega, oddN_zero, Nat.mul_zero]
  rw [hz'] at h
  rw [hz]
  unfold RetDy at h ⊢
  simpa [dyE_zero] using h
set_option maxRecDepth 100000 in
set_option maxHeartbeats 4000000 in
theorem r3mul_calls (na nb : Bool) (A : Option Addr) (n c : Nat) (xs : List Int) (ea : Int) (B : Option Addr) (m d : Nat) (ys : List Int) (eb : Int) (w : World) (hs : SlU w w.heap.size A n xs) (ht : SlU w w.heap.size B m ys)
  (hn : n ≤ 8) (hm : m ≤ 8) (hc : n ≤ c) (hd : m ≤ d) (ha : -20000 ≤ ea ∧ ea ≤ 20000) (hb : -20000 ≤ eb ∧ eb ≤ 20000) :
  Calls Tryz.prog 124 #[.agg #[.bool na, .slice A n c, .int .i64 ea], .agg #[.bool nb, .slice B m d, .int .i64 eb]] w (RetDy w (na != nb) (valL xs * valL ys) (ea + eb)) := by
 have hlx : valL xs < 2 ^ 256 := valL_lt_pow hs.2.1 hs.1 hn (show 32 * 8 = 256 from rfl)
 have hly : valL ys < 2 ^ 256 := valL_lt_pow ht.2.1 ht.1 hm (show 32 * 8 = 256 from rfl)
 have HMa := Lib.hid (fun W h => r3make_calls na A n c xs ea W h (by omega) hc (by omega) (by omega))
 have HMb := Lib.hid (fun W h => r3make_calls nb B m d ys eb W h (by omega) hd (by omega) (by omega))
 replace hlx := Lib.hid hlx
 replace hly := Lib.hid hly
 replace hs := Lib.hid hs
 replace ht := Lib.hid ht
 generalize valL xs = X at HMa hlx ⊢
 generalize valL ys = Y at HMb hly ⊢
 have BB : Blk _ (w.heap.size + 1) 128 #[.bool nb, .slice B m d, .int .i64 eb] := Blk.alloc (Blk.new1 w (.cells #[.bool na, .slice A n c, .int .i64 ea] 128) _ _) (.cells #[.bool false, .slice none 0 0, .int .i64 0] 128)
 have BR : Blk _ (w.heap.size + 1 + 1) 128 #[.bool false, .slice none 0 0, .int .i64 0] := Blk.new2 w (.cells #[.bool na, .slice A n c, .int .i64 ea] 128) (.cells #[.bool nb, .slice B m d, .int .i64 eb] 128) _ _
 have HBd := (bl_alloc (bl_alloc (bl_alloc (Below.refl w.heap.size w) (.cells #[.bool na, .slice A n c, .int .i64 ea] 128)) (.cells #[.bool nb, .slice B m d, .int .i64 eb] 128)) (.cells #[.bool false, .slice none 0 0, .int .i64 0] 128))
 go_enter Tryz.func124, Tryz.ntmps124
 go_wp2_with (first
  | (go_at_call 125; (with_reducible refine (HMa.out _ (hs.out.on HBd)).mono ?_); rintro e1 w1 ⟨A1, n1, c1, rfl, hc1, S1, hb1⟩; replace BB := BB.call hb1; replace BR := BR.call hb1; replace HBd := bl_trans HBd hb1; replace S1 := Lib.hid S1; have hlb := BR.lt; have hlb1 := BB.lt; obtain ⟨yc0, yc1, yc2⟩ : w1.cell? ⟨w.heap.size + 1, 0, none⟩ = some (.bool nb) ∧ w1.cell? ⟨w.heap.size + 1, 1, none⟩ = some (.slice B m d) ∧ w1.cell? ⟨w.heap.size + 1, 2, none⟩ = some (.int .i64 eb) := ⟨BB.cell 0, BB.cell 1, BB.cell 2⟩; generalize hsa : (na && decide (0 < X)) = sa; generalize hpa : dyE X ea = pa; replace hsa := Lib.hid hsa; replace hpa := Lib.hid hpa; replace S1 := Lib.hid (S1.out.on (bl_alloc (Below.refl w1.heap.size w1) (.cells #[.bool sa, .slice A1 n1 c1, .int .i64 pa] 128))); have BX : Blk (w1.alloc (.cells #[.bool sa, .slice A1 n1 c1, .int .i64 pa] 128)) w1.heap.size 128 _ := Blk.new w1 _ _; replace BR := BR.alloc (.cells #[.bool sa, .slice A1 n1 c1, .int .i64 pa] 128); replace HBd := bl_alloc HBd (.cells #[.bool sa, .slice A1 n1 c1, .int .i64 pa] 128); clear hb1)
  | (go_at_call 125; (with_reducible refine (HMb.out _ (ht.out.on HBd)).mono ?_); rintro e2 w2 ⟨A2, n2, c2, rfl, hc2, S2, hb2⟩; replace BX := BX.call hb2; replace BR := BR.call hb2; replace HBd := bl_trans HBd hb2; replace S1 := Lib.hid (S1.out.on hb2); replace S2 := Lib.hid S2; have hgx := BX.lt; have hlr := BR.lt; obtain ⟨xc0, xc1, xc2⟩ : w2.cell? ⟨w1.heap.size, 0, none⟩ = some (.bool sa) ∧ w2.cell? ⟨w1.heap.size, 1, none⟩ = some (.slice A1 n1 c1) ∧ w2.cell? ⟨w1.heap.size, 2, none⟩ = some (.int .i64 pa) := ⟨BX.cell 0, BX.cell 1, BX.cell 2⟩; generalize hsb : (nb && decide (0 < Y)) = sb; generalize hpb : dyE Y eb = pb; replace hsb := Lib.hid hsb; replace hpb := Lib.hid hpb; clear BB hlb1 hb2; obtain ⟨xf0, xf1, xf2⟩ : w2.frozen? ⟨w1.heap.size, 0, none⟩ = false ∧ w2.frozen? ⟨w1.heap.size, 1, none⟩ = false ∧ w2.frozen? ⟨w1.heap.size, 2, none⟩ = false := ⟨BX.frozen 0, BX.frozen 1, BX.frozen 2⟩; obtain ⟨zc0, zc1, zc2⟩ : w2.cell? ⟨w.heap.size + 1 + 1, 0, none⟩ = some (.bool false) ∧ w2.cell? ⟨w.heap.size + 1 + 1, 1, none⟩ = some (.slice none 0 0) ∧ w2.cell? ⟨w.heap.size + 1 + 1, 2, none⟩ = some (.int .i64 0) := ⟨BR.cell 0, BR.cell 1, BR.cell 2⟩; obtain ⟨zf0, zf1, zf2⟩ : w2.frozen? ⟨w.heap.size + 1 + 1, 0, none⟩ = false ∧ w2.frozen? ⟨w.heap.size + 1 + 1, 1, none⟩ = false ∧ w2.frozen? ⟨w.heap.size + 1 + 1, 2, none⟩ = false := ⟨BR.frozen 0, BR.frozen 1, BR.frozen 2⟩))
 clear hgx xc0 xc1 xc2 xf0 xf1 xf2 zc0 zc1 zc2 zf0 zf1 zf2
 have obB := (.cells #[.bool sb, .slice A2 n2 c2, .int .i64 pb] 128 : Obj)
 have BY : Blk (w2.alloc (.cells #[.bool sb, .slice A2 n2 c2, .int .i64 pb] 128)) w2.heap.size 128 #[.bool sb, .slice A2 n2 c2, .int .i64 pb] := Blk.new w2 _ _
 replace BX := BX.alloc (.cells #[.bool sb, .slice A2 n2 c2, .int .i64 pb] 128)
 replace BR := BR.alloc (.cells #[.bool sb, .slice A2 n2 c2, .int .i64 pb] 128)
 replace HBd := bl_alloc HBd (.cells #[.bool sb, .slice A2 n2 c2, .int .i64 pb] 128)
 replace S1 := Lib.hid (S1.out.on (bl_alloc (Below.refl _ _) (.cells #[.bool sb, .slice A2 n2 c2, .int .i64 pb] 128)))
 replace S2 := Lib.hid (S2.out.on (bl_alloc (Below.refl _ _) (.cells #[.bool sb, .slice A2 n2 c2, .int .i64 pb] 128)))
 generalize w2.alloc (.cells #[.bool sb, .slice A2 n2 c2, .int .i64 pb] 128) = W at BX BY BR HBd S1 S2 ⊢
 generalize w1.heap.size = g1 at BX ⊢
 generalize w2.heap.size = g2 at BY ⊢
 have l1 := len_one (k := 8) (odd_lt' (c := 256) hlx.out (Nat.le_refl _)) (by decide) S1.out.1
 have l2 := len_one (k := 8) (odd_lt' (c := 256) hly.out (Nat.le_refl _)) (by decide) S2.out.1
 have hPl : ∀ n', (digs (oddN X * oddN Y)).length = n' → n' ≤ 16 := fun n' h => len_one (prod_lt (c := 512) (odd_lt' (c := 256) hlx.out (Nat.le_refl _)) (odd_lt' (c := 256) hly.out (Nat.le_refl _)) rfl) (by decide) h
 have bpa := dyE_bd hlx.out ha.1 ha.2
 have bpb := dyE_bd hly.out hb.1 hb.2
 rw [hpa.out] at bpa
 rw [hpb.out] at bpb
 obtain ⟨bp1, bp2⟩ := bpa
 obtain ⟨bp3, bp4⟩ := bpb
 have hR : ∀ en w', RetDy w ((sa != sb) && decide (0 < oddN X * oddN Y)) (oddN X * oddN Y) (pa + pb) en w' → RetDy w (na != nb) (X * Y) (ea + eb) en w' := by
  intro en w' h
  rw [← hsa.out, ← hsb.out, ← hpa.out, ← hpb.out] at h
  exact retDy_mul h
 have HTw := (fun W g h => r2two_calls sa sb A1 n1 c1 (digs (oddN X)) A2 n2 c2 (digs (oddN Y)) W g h (by omega) (by omega) hc1 hc2)
 rw [valL_digs, valL_digs] at HTw
 generalize oddN X * oddN Y = P at HTw hR hPl
 unfold RetW at HTw
 have HM3 := (fun A n c W h hn hc => r3make_calls ((sa != sb) && decide (0 < P)) A n c (digs P) (pa + pb) W h hn hc (by omega) (by omega))
 rw [valL_digs] at HM3
 have hsw : IntKind.i64.wrap (pa + pb) = pa + pb := wrap_z (by omega) (by omega)
 unfold RetDy at HM3
 generalize hsz : ((sa != sb) && decide (0 < P)) = sz at HTw HM3 hR
 generalize hpz : dyE P (pa + pb) = pz at HM3
 rw [← hsw] at HM3
 replace hsz := Lib.hid hsz
 replace hpz := Lib.hid hpz
 replace HTw := Lib.hid HTw
 replace HM3 := Lib.hid HM3
 replace hPl := Lib.hid hPl
 replace hR := Lib.hid hR
 clear hsw hlx hly hsa hsb hpa hpb ha hb
 replace BX := BX.drew
 replace BY := BY.drew
 replace BR := BR.drew
 replace HBd := bl_drew HBd
 replace S1 := Lib.hid (S1.out.on (bl_drew (Below.refl _ _)))
 replace S2 := Lib.hid (S2.out.on (bl_drew (Below.refl _ _)))
 refine start_ (n := 12) (S := fun w' => w'.cell? ⟨g1, 0, none⟩ = some (.bool sa) ∧ w'.cell? ⟨g1, 1, none⟩ = some (.slice A1 n1 c1) ∧ w'.cell? ⟨g1, 2, none⟩ = some (.int .i64 pa) ∧ w'.cell? ⟨g2, 0, none⟩ = some (.bool sb) ∧ w'.cell? ⟨g2, 1, none⟩ = some (.slice A2 n2 c2) ∧ w'.cell? ⟨g2, 2, none⟩ = some (.int .i64 pb)) (ds := [11]) (bq 12 0) (by kernel_rfl) rfl rfl ⟨BX.cell 0, BX.cell 1, BX.cell 2, BY.cell 0, BY.cell 1, BY.cell 2⟩ (fun hHeld => ?_)
 refine pure_ (i := 0) (N := some 17) (v := ?_) (a' := ?_) (bq 12 1) rfl rfl (by kernel_rfl) (fun _ _ _ h => h) (Or.inl ⟨by rfl, ?_⟩) ?_ ?_
 rotate_left
 ·intro w'
  go_simp
  with_reducible rfl
 rotate_left
 ·simp only [Act.put, pA, pB, pC]
  rfl
 refine take_ (i := 1) (N := some 18) (v := ?_) (a' := ?_) (bq 12 3) rfl rfl (by kernel_rfl) (fun _ _ _ h => h) (Or.inl ⟨by rfl, ?_⟩) hHeld ?_ ?_
 rotate_left
 ·rintro w' ⟨s0_, s1_, s2_, s3_, s4_, s5_⟩
  go_simp
  with_reducible rfl
 rotate_left
 ·simp only [Act.put, pA, pB, pC]
  rfl
 refine pure_ (i := 2) (N := some 19) (v := ?_) (a' := ?_) (bq 12 7) rfl rfl (by kernel_rfl) (fun _ _ _ h => h) (Or.inl ⟨by rfl, ?_⟩) ?_ ?_
 rotate_left
 ·intro w'
  go_simp
  with_reducible rfl
 rotate_left
 ·simp only [Act.put, pA, pB, pC]
  rfl
 refine take_ (i := 3) (N := some 20) (v := ?_) (a' := ?_) (bq 12 15) rfl rfl (by kernel_rfl) (fun _ _ _ h => h) (Or.inl ⟨by rfl, ?_⟩) hHeld ?_ ?_
 rotate_left
 ·rintro w' ⟨s0_, s1_, s2_, s3_, s4_, s5_⟩
  go_simp
  with_reducible rfl
 rotate_left
 ·simp only [Act.put, pA, pB, pC]
  rfl
 refine pure_ (i := 5) (N := some 22) (v := ?_) (a' := ?_) (bq 12 47) rfl rfl (by kernel_rfl) (fun _ _ _ h => h) (Or.inl ⟨by rfl, ?_⟩) ?_ ?_
 rotate_left
 ·intro w'
  go_simp
  with_reducible rfl
 rotate_left
 ·simp only [Act.put, pA, pB, pC]
  rfl
 refine take_ (i := 6) (N := some 23) (v := ?_) (a' := ?_) (bq 12 111) rfl rfl (by kernel_rfl) (fun _ _ _ h => h) (Or.inl ⟨by rfl, ?_⟩) hHeld ?_ ?_
 rotate_left
 ·rintro w' ⟨s0_, s1_, s2_, s3_, s4_, s5_⟩
  go_simp
  with_reducible rfl
 rotate_left
 ·simp only [Act.put, pA, pB, pC]
  rfl
 refine pure_ (i := 7) (N := some 24) (v := ?_) (a' := ?_) (bq 12 239) rfl rfl (by kernel_rfl) (fun _ _ _ h => h) (Or.inl ⟨by rfl, ?_⟩) ?_ ?_
 rotate_left
 ·intro w'
  go_simp
  with_reducible rfl
 rotate_left
 ·simp only [Act.put, pA, pB, pC]
  rfl
 refine take_ (i := 8) (N := some 25) (v := ?_) (a' := ?_) (bq 12 495) rfl rfl (by kernel_rfl) (fun _ _ _ h => h) (Or.inl ⟨by rfl, ?_⟩) hHeld ?_ ?_
 rotate_left
 ·rintro w' ⟨s0_, s1_, s2_, s3_, s4_, s5_⟩
  go_simp
  with_reducible rfl
 rotate_left
 ·simp only [Act.put, pA, pB, pC]
  rfl
 refine pure_ (i := 9) (N := some 26) (v := ?_) (a' := ?_) (bq 12 1007) rfl rfl (by kernel_rfl) (fun _ _ _ h => h) (Or.inl ⟨by rfl, ?_⟩) ?_ ?_
 rotate_left
 ·intro w'
  go_simp
  with_reducible rfl
 rotate_left
 ·simp only [Act.put, pA, pB, pC]
  rfl
 refine one_ (i := 4) (N := some 21) (bq 12 1023) rfl rfl (by kernel_rfl) (by decide) (fun K hK => ?_)
 refine goes_ Tryz.func140 (by kernel_rfl) rfl #[.agg #[.bool sa, .slice A1 n1 c1], .agg #[.bool sb, .slice A2 n2 c2]] (by first | rfl | go_simp) rfl rfl (by simp only [List.map_toArray, List.map_cons, List.map_nil] <;> rfl) ?_
 with_reducible refine (HTw.out _ S1.out S2.out).mono ?_
 rintro e w4 ⟨A4, n4, c4, rfl, hc4, S4, hb⟩
 refine ⟨_, rfl, ?_⟩
 replace S4 := Lib.hid S4
 replace BX := BX.call hb
 replace BY := BY.call hb
 replace BR := BR.call hb
 replace HBd := bl_trans HBd hb
 have hl4 := hPl.out n4 S4.out.1
 refine hK.out _ _ ⟨BX.cell 0, BX.cell 1, BX.cell 2, BY.cell 0, BY.cell 1, BY.cell 2⟩ (fun hHeld => ?_)
 clear hK K hb
 refine norm_ (a' := ?_) ?_ ?_
 rotate_left
 ·show Act.put _ (some 21) _ = _
  simp only [Act.put, pA, pB, pC]
  rfl
 refine one_ (i := 10) (N := some 27) (bq 12 2047) rfl rfl (by kernel_rfl) (by decide) (fun K hK => ?_)
 refine goes_ Tryz.func125 (by kernel_rfl) rfl #[.agg #[.bool sz, .slice A4 n4 c4], .int .i64 (IntKind.i64.wrap (pa + pb))] (by first | rfl | go_simp) rfl rfl (by simp only [List.map_toArray, List.map_cons, List.map_nil] <;> rfl) ?_
 with_reducible refine (HM3.out A4 n4 c4 _ S4.out (by omega) hc4).mono ?_
 rintro e w7 ⟨A6, n6, c6, rfl, hc6, S6, hb⟩
 refine ⟨_, rfl, ?_⟩
 replace S6 := Lib.hid S6
 replace BX := BX.call hb
 replace BY := BY.call hb
 replace BR := BR.call hb
 replace HBd := bl_trans HBd hb
 obtain ⟨zc0, zc1, zc2⟩ : w7.cell? ⟨w.heap.size + 1 + 1, 0, none⟩ = some (.bool false) ∧ w7.cell? ⟨w.heap.size + 1 + 1, 1, none⟩ = some (.slice none 0 0) ∧ w7.cell? ⟨w.heap.size + 1 + 1, 2, none⟩ = some (.int .i64 0) := ⟨BR.cell 0, BR.cell 1, BR.cell 2⟩
 obtain ⟨zf0, zf1, zf2⟩ : w7.frozen? ⟨w.heap.size + 1 + 1, 0, none⟩ = false ∧ w7.frozen? ⟨w.heap.size + 1 + 1, 1, none⟩ = false ∧ w7.frozen? ⟨w.heap.size + 1 + 1, 2, none⟩ = false := ⟨BR.frozen 0, BR.frozen 1, BR.frozen 2⟩
 refine hK.out _ _ ⟨BX.cell 0, BX.cell 1, BX.cell 2, BY.cell 0, BY.cell 1, BY.cell 2⟩ (fun hHeld => ?_)
 clear hK K hb
 refine norm_ (a' := ?_) ?_ ?_
 rotate_left
 ·show Act.put _ (some 27) _ = _
  simp only [Act.put, pA, pB, pC]
  rfl
 refine last_ (i := 11) (N := none) (bq 12 4095) rfl rfl (by kernel_rfl) (by decide) (fun K hK => ?_)
 refine skip_ (w1 := ?_) (by rfl) rfl ?_ ?_
 rotate_left
 ·go_simp
  rfl
 refine hK.out _ _ ?_
 clear hK K
 refine done_ (by kernel_rfl) ?_
 go_wp2_with fail
 generalize hsv : (sz && decide (0 < P)) = sv
 have B2 : Blk _ (w.heap.size + 1 + 1) 128 #[.bool sv, .slice A6 n6 c6, .int .i64 pz] := (((BR.set_ 0 (.bool sv)).set_ 1 (.slice A6 n6 c6)).set_ 2 (.int .i64 pz))
 have HB2 := (((HBd.setCell (p := ⟨w.heap.size + 1 + 1, 0, none⟩) (by show w.heap.size ≤ w.heap.size + 1 + 1; omega) (.bool sv)).setCell (p := ⟨w.heap.size + 1 + 1, 1, none⟩) (by show w.heap.size ≤ w.heap.size + 1 + 1; omega) (.slice A6 n6 c6)).setCell (p := ⟨w.heap.size + 1 + 1, 2, none⟩) (by show w.heap.size ≤ w.heap.size + 1 + 1; omega) (.int .i64 pz))
 have S7 := ((S6.out.store BR (noU3 _ _ _ _ _) 0 (.bool sv)).store (BR.set_ 0 _) (noU3 _ _ _ _ _) 1 (.slice A6 n6 c6)).store ((BR.set_ 0 _).set_ 1 _) (noU3 _ _ _ _ _) 2 (.int .i64 pz)
 exact bodyPost_ret (results_cell_row rfl _ _ (w.heap.size + 1 + 1) 128 _ (0, 0) _ rfl B2 Tryz.underlying128 rfl (by kernel_rfl)) rfl (hR.out _ _ ⟨A6, n6, c6, by rw [hsv, hpz.out], hc6, S7.more (by simp), HB2⟩)
end Go.Proofs.YtagojbgmgkkdpaaGreat.Wk
