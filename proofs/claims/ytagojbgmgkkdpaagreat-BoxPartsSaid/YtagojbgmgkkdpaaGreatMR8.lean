import Derived.Test.YtagojbgmgkkdpaaGreatMR6
import Derived.Test.YtagojbgmgkkdpaaGreatMRa
import Derived.Test.YtagojbgmgkkdpaaGreatStG
/- Walks: the reference's Mid, Width. -/
namespace Go.Proofs.YtagojbgmgkkdpaaGreat.Wk
open Go.RowKit Go.Proofs.Pl Go.Proofs.YtagojbgmgkkdpaaGreatW.PrintLast
set_option linter.unusedSimpArgs false
set_option linter.unusedVariables false

/-- the middle, as the document has it -/
def rmidF (c : Iv) : Num := if c.emp = true then zero else if c = allI then zero else if c.lo.k = 2 then c.hi else if c.hi.k = 2 then c.lo
 else if cmpN (halfN (addN c.lo c.hi false) false) c.lo < 0 then c.lo else if 0 < cmpN (halfN (addN c.lo c.hi false) false) c.hi then c.hi else halfN (addN c.lo c.hi false) false
theorem mid_three {lo hi m : Num} (h1 : mayN lo = true) (h2 : mayN hi = true) (h3 : mayN m = true) (w1 : Wf lo) (w2 : Wf hi) (w3 : Wf m) (hle : key lo ≤ key hi) :
  mostN [lo, leastN [m, hi]] = if cmpN m lo < 0 then lo else if 0 < cmpN m hi then hi else m := by
 obtain ⟨l1, l2, l3, l4, l5⟩ := least2 w3 w2
 obtain ⟨g1, g2, g3, g4, g5⟩ := most2 w1 l2
 rw [K_of h3] at l3 l5
 rw [K_of h2] at l4 l5
 rw [K_of h1] at g3 g5
 rw [K_of l1] at g4 g5
 have b1 := key_bd h1 w1
 have b2 := key_bd h2 w2
 have b3 := key_bd h3 w3
 have e1 := cmp_lt w3 w1
 have e2 := cmp_gt w3 w2
 rw [K_of h3, K_of h1] at e1
 rw [K_of h3, K_of h2] at e2
 have q1 := l5 (min (key m) (key hi)) (by omega) (by omega) (by omega)
 have q2 := g5 (max (key lo) (key (leastN [m, hi]))) (by omega) (by omega) (by omega)
 by_cases c1 : cmpN m lo < 0
 ·rw [if_pos c1]
  have := e1.1 c1
  exact key_inj g1 h1 g2 w1 (by omega)
 ·rw [if_neg c1]
  have n1 : ¬ key m < key lo := fun h => c1 (e1.2 h)
  by_cases c2 : 0 < cmpN m hi
  ·rw [if_pos c2]
   have := e2.1 c2
   exact key_inj g1 h2 g2 w2 (by omega)
  ·rw [if_neg c2]
   have n2 : ¬ key hi < key m := fun h => c2 (e2.2 h)
   exact key_inj g1 h3 g2 w3 (by omega)
theorem mid_eq {x : Iv} (wx : WfIv x) : midI x = rmidF (fairI x) := by
 have wf := fairI_wf wx
 rcases fairI_cases x with ⟨hf, he⟩ | ⟨hf, he⟩
 ·obtain ⟨h0, h1, h2, h3, h4, h5⟩ := (full_iff wx).1 hf
  unfold midI rmidF
  rw [he, h0]
  rw [if_neg (show ¬ (false = true) by decide)]
  have T0 : 0 < TOP := by unfold TOP; decide
  have bl := key_bd h1 wx.1
  have bh := key_bd h2 wx.2
  by_cases k1 : x.lo.k = 2
  ·by_cases k2 : x.hi.k = 2
   ·have e1 := inf_of h1 k1
    have e2 := inf_of h2 k2
    have k1' := inf_key h1 k1
    have k2' := inf_key h2 k2
    have n1 : x.lo.n = true := by
     cases hn : x.lo.n
     ·rw [hn] at k1'; simp at k1'; omega
     ·rfl
    have n2 : x.hi.n = false := by
     cases hn : x.hi.n
     ·rfl
     ·rw [hn] at k2'; simp at k2'; omega
    rw [n1] at e1
    rw [n2] at e2
    rw [if_pos (.inr ⟨k1, k2⟩), if_pos (show x = allI from by unfold allI; exact Iv.ext h0 e1 e2)]
   ·rw [if_neg (by simp [k2]), if_pos k1, if_neg (by intro h; rw [h] at k2; exact k2 rfl), if_pos k1]
  ·have hna : x ≠ allI := by intro h; rw [h] at k1; exact k1 rfl
   rw [if_neg (by simp [k1]), if_neg k1, if_neg hna, if_neg k1]
   by_cases k2 : x.hi.k = 2
   ·rw [if_pos k2, if_pos k2]
   ·rw [if_neg k2, if_neg k2]
    have hm := mulN_may (addN x.lo x.hi false) halfC false
    exact mid_three h1 h2 hm.1 wx.1 wx.2 hm.2 h3
 ·unfold midI rmidF
  rw [he]
  rfl
theorem few_fairI {x : Iv} {B : Int} (hB : 0 ≤ B) (hl : FewE x.lo B) (hh : FewE x.hi B) : FewE (fairI x).lo B ∧ FewE (fairI x).hi B := by
 rcases fairI_cases x with ⟨_, he⟩ | ⟨_, he⟩
 ·rw [he]; exact ⟨hl, hh⟩
 ·rw [he]
  have : fairN zero = zero := by decide +kernel
  have hz : FewE zero B := by unfold FewE; rw [this]; unfold zero; simp only; omega
  exact ⟨hz, hz⟩
set_option maxRecDepth 100000 in
set_option maxHeartbeats 8000000 in
theorem r8mid_calls (a0 : Bool) (a1 : Int) (a2 : Bool) (a3 a4 a5 : Int) (a6 : Bool) (a7 a8 : Int) (w : World) (wa : WfIv ⟨a0, ⟨a1, a2, a3, a4⟩, ⟨a5, a6, a7, a8⟩⟩) (ha : FewE ⟨a1, a2, a3, a4⟩ 1500) (hb : FewE ⟨a5, a6, a7, a8⟩ 1500) :
  Calls Tryz.prog 48 #[.agg #[.bool a0, .int .i64 a1, .bool a2, .int .u64 a3, .int .i64 a4, .int .i64 a5, .bool a6, .int .u64 a7, .int .i64 a8]] w fun e w' => e = .returned (.agg #[.int .i64 (midI ⟨a0, ⟨a1, a2, a3, a4⟩, ⟨a5, a6, a7, a8⟩⟩).k, .bool (midI ⟨a0, ⟨a1, a2, a3, a4⟩, ⟨a5, a6, a7, a8⟩⟩).n, .int .u64 (midI ⟨a0, ⟨a1, a2, a3, a4⟩, ⟨a5, a6, a7, a8⟩⟩).m, .int .i64 (midI ⟨a0, ⟨a1, a2, a3, a4⟩, ⟨a5, a6, a7, a8⟩⟩).e]) ∧ Below w.heap.size w w' := by
 have HF := (fun w => r8fair_calls a0 a1 a2 a3 a4 a5 a6 a7 a8 w)
 obtain ⟨fl, fh⟩ := few_fairI (x := ⟨a0, ⟨a1, a2, a3, a4⟩, ⟨a5, a6, a7, a8⟩⟩) (by decide) ha hb
 rw [mid_eq wa]
 have wf := fairI_wf wa
 clear ha hb wa
 generalize fairI ⟨a0, ⟨a1, a2, a3, a4⟩, ⟨a5, a6, a7, a8⟩⟩ = c at HF fl fh wf ⊢
 obtain ⟨c0, ⟨c1, c2, c3, c4⟩, ⟨c5, c6, c7, c8⟩⟩ := c
 obtain ⟨wl, wh⟩ := wf
 dsimp only at HF wl wh fl fh ⊢
 unfold rmidF
 dsimp only
 have hn := fun W => run_eqIv W c0 false c1 2 c2 true c3 0 c4 0 c5 2 c6 false c7 0 c8 0
 change ∀ W, (binOp .eql _ _ _).run _ W = .ok (.bool (decide ((⟨c0, ⟨c1, c2, c3, c4⟩, ⟨c5, c6, c7, c8⟩⟩ : Iv) = allI))) W at hn
 replace HF := Lib.hid HF
 cases c0
 ·rw [if_neg (show ¬ (false = true) by decide)]
  by_cases hA : (⟨false, ⟨c1, c2, c3, c4⟩, ⟨c5, c6, c7, c8⟩⟩ : Iv) = allI
  ·rw [if_pos hA]
   rw [decide_eq_true hA] at hn
   clear hA wl wh fl fh
   show Calls _ _ _ _ fun e w' => e = .returned (.agg #[.int .i64 0, .bool false, .int .u64 0, .int .i64 0]) ∧ Below w.heap.size w w'
   have BR : Blk _ (w.heap.size + 1) 37 #[.int .i64 0, .bool false, .int .u64 0, .int .i64 0] := Blk.new1 w (.cells #[.bool a0, .int .i64 a1, .bool a2, .int .u64 a3, .int .i64 a4, .int .i64 a5, .bool a6, .int .u64 a7, .int .i64 a8] 39) _ _
   have HBd := (bl_alloc (bl_alloc (Below.refl w.heap.size w) (.cells #[.bool a0, .int .i64 a1, .bool a2, .int .u64 a3, .int .i64 a4, .int .i64 a5, .bool a6, .int .u64 a7, .int .i64 a8] 39)) (.cells #[.int .i64 0, .bool false, .int .u64 0, .int .i64 0] 37))
   go_enter Tryz.func48, Tryz.ntmps48
   go_wp2_with (go_at_call 46; (with_reducible refine (HF.out _).mono ?_); rintro e1 w1 ⟨rfl, hb⟩; replace BR := (BR.call hb).alloc (.cells #[.bool false, .int .i64 c1, .bool c2, .int .u64 c3, .int .i64 c4, .int .i64 c5, .bool c6, .int .u64 c7, .int .i64 c8] 39); replace HBd := bl_alloc (bl_trans HBd hb) (.cells #[.bool false, .int .i64 c1, .bool c2, .int .u64 c3, .int .i64 c4, .int .i64 c5, .bool c6, .int .u64 c7, .int .i64 c8] 39); have BX : Blk (w1.alloc (.cells #[.bool false, .int .i64 c1, .bool c2, .int .u64 c3, .int .i64 c4, .int .i64 c5, .bool c6, .int .u64 c7, .int .i64 c8] 39)) w1.heap.size 39 #[.bool false, .int .i64 c1, .bool c2, .int .u64 c3, .int .i64 c4, .int .i64 c5, .bool c6, .int .u64 c7, .int .i64 c8] := Blk.new w1 _ _; clear hb)
   generalize w1.alloc (.cells #[.bool false, .int .i64 c1, .bool c2, .int .u64 c3, .int .i64 c4, .int .i64 c5, .bool c6, .int .u64 c7, .int .i64 c8] 39) = W1 at BX BR HBd ⊢
   generalize w1.heap.size = g at BX ⊢
   replace BX := BX.drew
   replace BR := BR.drew
   replace HBd := bl_drew HBd
   refine start_ (n := 7) (S := fun w' => w'.cell? ⟨g, 0, none⟩ = some (.bool false) ∧ w'.cell? ⟨g, 1, none⟩ = some (.int .i64 c1) ∧ w'.cell? ⟨g, 2, none⟩ = some (.bool c2) ∧ w'.cell? ⟨g, 3, none⟩ = some (.int .u64 c3) ∧ w'.cell? ⟨g, 4, none⟩ = some (.int .i64 c4) ∧ w'.cell? ⟨g, 5, none⟩ = some (.int .i64 c5) ∧ w'.cell? ⟨g, 6, none⟩ = some (.bool c6) ∧ w'.cell? ⟨g, 7, none⟩ = some (.int .u64 c7) ∧ w'.cell? ⟨g, 8, none⟩ = some (.int .i64 c8)) (ds := []) (bq 7 0) (by kernel_rfl) rfl rfl ⟨BX.cell 0, BX.cell 1, BX.cell 2, BX.cell 3, BX.cell 4, BX.cell 5, BX.cell 6, BX.cell 7, BX.cell 8⟩ (fun hHeld => ?_)
   refine pure_ (i := 0) (N := some 7) (v := ?_) (a' := ?_) (bq 7 1) rfl rfl (by kernel_rfl) (fun _ _ _ h => h) (Or.inl ⟨by rfl, ?_⟩) ?_ ?_
   rotate_left
   ·intro w'
    go_simp
    with_reducible rfl
   rotate_left
   ·simp only [Act.put, pA, pB, pC]
    rfl
   refine take_ (i := 1) (N := some 8) (v := ?_) (a' := ?_) (bq 7 3) rfl rfl (by kernel_rfl) (fun _ _ _ h => h) (Or.inl ⟨by rfl, ?_⟩) hHeld ?_ ?_
   rotate_left
   ·rintro w' ⟨s0_, s1_, s2_, s3_, s4_, s5_, s6_, s7_, s8_⟩
    go_simp
    with_reducible rfl
   rotate_left
   ·simp only [Act.put, pA, pB, pC]
    rfl
   refine pure_ (i := 2) (N := some 9) (v := ?_) (a' := ?_) (bq 7 7) rfl rfl (by kernel_rfl) (fun _ _ _ h => h) (Or.inl ⟨by rfl, ?_⟩) ?_ ?_
   rotate_left
   ·intro w'
    go_simp
    with_reducible rfl
   rotate_left
   ·simp only [Act.put, pA, pB, pC]
    rfl
   refine take_ (i := 3) (N := some 10) (v := ?_) (a' := ?_) (bq 7 15) rfl rfl (by kernel_rfl) (fun _ _ _ h => h) (Or.inl ⟨by rfl, ?_⟩) hHeld ?_ ?_
   rotate_left
   ·rintro w' ⟨s0_, s1_, s2_, s3_, s4_, s5_, s6_, s7_, s8_⟩
    go_simp
    with_reducible rfl
   rotate_left
   ·simp only [Act.put, pA, pB, pC]
    rfl
   refine one_ (i := 4) (N := some 11) (bq 7 31) rfl rfl (by kernel_rfl) (by decide) (fun K hK => ?_)
   refine goes_ Tryz.func77 (by kernel_rfl) rfl #[] (by first | rfl | go_simp) rfl rfl (by simp only [List.map_toArray, List.map_cons, List.map_nil] <;> rfl) ?_
   with_reducible refine (r8all_lit _).mono ?_
   rintro e w2 ⟨rfl, hb⟩
   refine ⟨_, rfl, ?_⟩
   replace BX := BX.call hb
   replace BR := BR.call hb
   replace HBd := bl_trans HBd hb
   refine hK.out _ _ ⟨BX.cell 0, BX.cell 1, BX.cell 2, BX.cell 3, BX.cell 4, BX.cell 5, BX.cell 6, BX.cell 7, BX.cell 8⟩ (fun hHeld => ?_)
   clear hK K hb
   refine norm_ (a' := ?_) ?_ ?_
   rotate_left
   ·show Act.put _ (some 11) _ = _
    simp only [Act.put, pA, pB, pC]
    rfl
   refine pure_ (i := 5) (N := some 12) (v := ?_) (a' := ?_) (bq 7 63) rfl rfl (by kernel_rfl) (fun _ _ _ h => h) (Or.inl ⟨by rfl, ?_⟩) ?_ ?_
   rotate_left
   ·intro w'
    go_simp
    with_reducible rfl
   rotate_left
   ·simp only [Act.put, pA, pB, pC]
    rfl
   refine pure_ (i := 6) (N := some 13) (v := ?_) (a' := ?_) (bq 7 127) rfl rfl (by kernel_rfl) (fun _ _ _ h => h) (Or.inl ⟨by rfl, ?_⟩) ?_ ?_
   rotate_left
   ·intro w'
    go_simp
    with_reducible rfl
   rotate_left
   ·simp only [Act.put, pA, pB, pC]
    rfl
   refine done_ (by kernel_rfl) ?_

   clear hHeld
   obtain ⟨⟨q0, q1, q2, q3, q4, q5, q6, q7, q8⟩, _⟩ := BX.c9
   obtain ⟨⟨z0, z1, z2, z3⟩, ⟨k0, k1, k2, k3⟩⟩ := BR.c4
   go_wp2_with fail
   have B2 := ((((BR.set_ 0 (.int .i64 0)).set_ 1 (.bool false)).set_ 2 (.int .u64 0)).set_ 3 (.int .i64 0))
   have HB2 := ((((HBd.setCell (p := ⟨w.heap.size + 1, 0, none⟩) (by show w.heap.size ≤ w.heap.size + 1; omega) (.int .i64 0)).setCell (p := ⟨w.heap.size + 1, 1, none⟩) (by show w.heap.size ≤ w.heap.size + 1; omega) (.bool false)).setCell (p := ⟨w.heap.size + 1, 2, none⟩) (by show w.heap.size ≤ w.heap.size + 1; omega) (.int .u64 0)).setCell (p := ⟨w.heap.size + 1, 3, none⟩) (by show w.heap.size ≤ w.heap.size + 1; omega) (.int .i64 0))
   exact bodyPost_ret (results_cell_row rfl _ _ (w.heap.size + 1) 37 _ (0, 0) _ rfl B2 Tryz.underlying37 rfl (by kernel_rfl)) rfl ⟨rfl, HB2⟩
  ·rw [if_neg hA]
   rw [decide_eq_false hA] at hn
   clear hA
   by_cases j1 : c1 = 2
   ·rw [if_pos j1]
    subst j1
    clear wl wh fl fh
    have BR : Blk _ (w.heap.size + 1) 37 #[.int .i64 0, .bool false, .int .u64 0, .int .i64 0] := Blk.new1 w (.cells #[.bool a0, .int .i64 a1, .bool a2, .int .u64 a3, .int .i64 a4, .int .i64 a5, .bool a6, .int .u64 a7, .int .i64 a8] 39) _ _
    have HBd := (bl_alloc (bl_alloc (Below.refl w.heap.size w) (.cells #[.bool a0, .int .i64 a1, .bool a2, .int .u64 a3, .int .i64 a4, .int .i64 a5, .bool a6, .int .u64 a7, .int .i64 a8] 39)) (.cells #[.int .i64 0, .bool false, .int .u64 0, .int .i64 0] 37))
    go_enter Tryz.func48, Tryz.ntmps48
    go_wp2_with (go_at_call 46; (with_reducible refine (HF.out _).mono ?_); rintro e1 w1 ⟨rfl, hb⟩; replace BR := (BR.call hb).alloc (.cells #[.bool false, .int .i64 2, .bool c2, .int .u64 c3, .int .i64 c4, .int .i64 c5, .bool c6, .int .u64 c7, .int .i64 c8] 39); replace HBd := bl_alloc (bl_trans HBd hb) (.cells #[.bool false, .int .i64 2, .bool c2, .int .u64 c3, .int .i64 c4, .int .i64 c5, .bool c6, .int .u64 c7, .int .i64 c8] 39); have BX : Blk (w1.alloc (.cells #[.bool false, .int .i64 2, .bool c2, .int .u64 c3, .int .i64 c4, .int .i64 c5, .bool c6, .int .u64 c7, .int .i64 c8] 39)) w1.heap.size 39 #[.bool false, .int .i64 2, .bool c2, .int .u64 c3, .int .i64 c4, .int .i64 c5, .bool c6, .int .u64 c7, .int .i64 c8] := Blk.new w1 _ _; clear hb)
    generalize w1.alloc (.cells #[.bool false, .int .i64 2, .bool c2, .int .u64 c3, .int .i64 c4, .int .i64 c5, .bool c6, .int .u64 c7, .int .i64 c8] 39) = W1 at BX BR HBd ⊢
    generalize w1.heap.size = g at BX ⊢
    replace BX := BX.drew
    replace BR := BR.drew
    replace HBd := bl_drew HBd
    refine start_ (n := 7) (S := fun w' => w'.cell? ⟨g, 0, none⟩ = some (.bool false) ∧ w'.cell? ⟨g, 1, none⟩ = some (.int .i64 2) ∧ w'.cell? ⟨g, 2, none⟩ = some (.bool c2) ∧ w'.cell? ⟨g, 3, none⟩ = some (.int .u64 c3) ∧ w'.cell? ⟨g, 4, none⟩ = some (.int .i64 c4) ∧ w'.cell? ⟨g, 5, none⟩ = some (.int .i64 c5) ∧ w'.cell? ⟨g, 6, none⟩ = some (.bool c6) ∧ w'.cell? ⟨g, 7, none⟩ = some (.int .u64 c7) ∧ w'.cell? ⟨g, 8, none⟩ = some (.int .i64 c8)) (ds := []) (bq 7 0) (by kernel_rfl) rfl rfl ⟨BX.cell 0, BX.cell 1, BX.cell 2, BX.cell 3, BX.cell 4, BX.cell 5, BX.cell 6, BX.cell 7, BX.cell 8⟩ (fun hHeld => ?_)
    refine pure_ (i := 0) (N := some 7) (v := ?_) (a' := ?_) (bq 7 1) rfl rfl (by kernel_rfl) (fun _ _ _ h => h) (Or.inl ⟨by rfl, ?_⟩) ?_ ?_
    rotate_left
    ·intro w'
     go_simp
     with_reducible rfl
    rotate_left
    ·simp only [Act.put, pA, pB, pC]
     rfl
    refine take_ (i := 1) (N := some 8) (v := ?_) (a' := ?_) (bq 7 3) rfl rfl (by kernel_rfl) (fun _ _ _ h => h) (Or.inl ⟨by rfl, ?_⟩) hHeld ?_ ?_
    rotate_left
    ·rintro w' ⟨s0_, s1_, s2_, s3_, s4_, s5_, s6_, s7_, s8_⟩
     go_simp
     with_reducible rfl
    rotate_left
    ·simp only [Act.put, pA, pB, pC]
     rfl
    refine pure_ (i := 2) (N := some 9) (v := ?_) (a' := ?_) (bq 7 7) rfl rfl (by kernel_rfl) (fun _ _ _ h => h) (Or.inl ⟨by rfl, ?_⟩) ?_ ?_
    rotate_left
    ·intro w'
     go_simp
     with_reducible rfl
    rotate_left
    ·simp only [Act.put, pA, pB, pC]
     rfl
    refine take_ (i := 3) (N := some 10) (v := ?_) (a' := ?_) (bq 7 15) rfl rfl (by kernel_rfl) (fun _ _ _ h => h) (Or.inl ⟨by rfl, ?_⟩) hHeld ?_ ?_
    rotate_left
    ·rintro w' ⟨s0_, s1_, s2_, s3_, s4_, s5_, s6_, s7_, s8_⟩
     go_simp
     with_reducible rfl
    rotate_left
    ·simp only [Act.put, pA, pB, pC]
     rfl
    refine one_ (i := 4) (N := some 11) (bq 7 31) rfl rfl (by kernel_rfl) (by decide) (fun K hK => ?_)
    refine goes_ Tryz.func77 (by kernel_rfl) rfl #[] (by first | rfl | go_simp) rfl rfl (by simp only [List.map_toArray, List.map_cons, List.map_nil] <;> rfl) ?_
    with_reducible refine (r8all_lit _).mono ?_
    rintro e w2 ⟨rfl, hb⟩
    refine ⟨_, rfl, ?_⟩
    replace BX := BX.call hb
    replace BR := BR.call hb
    replace HBd := bl_trans HBd hb
    refine hK.out _ _ ⟨BX.cell 0, BX.cell 1, BX.cell 2, BX.cell 3, BX.cell 4, BX.cell 5, BX.cell 6, BX.cell 7, BX.cell 8⟩ (fun hHeld => ?_)
    clear hK K hb
    refine norm_ (a' := ?_) ?_ ?_
    rotate_left
    ·show Act.put _ (some 11) _ = _
     simp only [Act.put, pA, pB, pC]
     rfl
    refine pure_ (i := 5) (N := some 12) (v := ?_) (a' := ?_) (bq 7 63) rfl rfl (by kernel_rfl) (fun _ _ _ h => h) (Or.inl ⟨by rfl, ?_⟩) ?_ ?_
    rotate_left
    ·intro w'
     go_simp
     with_reducible rfl
    rotate_left
    ·simp only [Act.put, pA, pB, pC]
     rfl
    refine pure_ (i := 6) (N := some 13) (v := ?_) (a' := ?_) (bq 7 127) rfl rfl (by kernel_rfl) (fun _ _ _ h => h) (Or.inl ⟨by rfl, ?_⟩) ?_ ?_
    rotate_left
    ·intro w'
     go_simp
     with_reducible rfl
    rotate_left
    ·simp only [Act.put, pA, pB, pC]
     rfl
    refine done_ (by kernel_rfl) ?_

    clear hHeld
    obtain ⟨⟨q0, q1, q2, q3, q4, q5, q6, q7, q8⟩, _⟩ := BX.c9
    obtain ⟨⟨z0, z1, z2, z3⟩, ⟨k0, k1, k2, k3⟩⟩ := BR.c4
    go_wp2_with fail
    have B2 := ((((BR.set_ 0 (.int .i64 c5)).set_ 1 (.bool c6)).set_ 2 (.int .u64 c7)).set_ 3 (.int .i64 c8))
    have HB2 := ((((HBd.setCell (p := ⟨w.heap.size + 1, 0, none⟩) (by show w.heap.size ≤ w.heap.size + 1; omega) (.int .i64 c5)).setCell (p := ⟨w.heap.size + 1, 1, none⟩) (by show w.heap.size ≤ w.heap.size + 1; omega) (.bool c6)).setCell (p := ⟨w.heap.size + 1, 2, none⟩) (by show w.heap.size ≤ w.heap.size + 1; omega) (.int .u64 c7)).setCell (p := ⟨w.heap.size + 1, 3, none⟩) (by show w.heap.size ≤ w.heap.size + 1; omega) (.int .i64 c8))
    exact bodyPost_ret (results_cell_row rfl _ _ (w.heap.size + 1) 37 _ (0, 0) _ rfl B2 Tryz.underlying37 rfl (by kernel_rfl)) rfl ⟨rfl, HB2⟩
   ·rw [if_neg j1]
    have j1' : (c1 == 2) = false := by simpa using j1
    by_cases j2 : c5 = 2
    ·rw [if_pos j2]
     subst j2
     clear wl wh fl fh
     have BR : Blk _ (w.heap.size + 1) 37 #[.int .i64 0, .bool false, .int .u64 0, .int .i64 0] := Blk.new1 w (.cells #[.bool a0, .int .i64 a1, .bool a2, .int .u64 a3, .int .i64 a4, .int .i64 a5, .bool a6, .int .u64 a7, .int .i64 a8] 39) _ _
     have HBd := (bl_alloc (bl_alloc (Below.refl w.heap.size w) (.cells #[.bool a0, .int .i64 a1, .bool a2, .int .u64 a3, .int .i64 a4, .int .i64 a5, .bool a6, .int .u64 a7, .int .i64 a8] 39)) (.cells #[.int .i64 0, .bool false, .int .u64 0, .int .i64 0] 37))
     go_enter Tryz.func48, Tryz.ntmps48
     go_wp2_with (go_at_call 46; (with_reducible refine (HF.out _).mono ?_); rintro e1 w1 ⟨rfl, hb⟩; replace BR := (BR.call hb).alloc (.cells #[.bool false, .int .i64 c1, .bool c2, .int .u64 c3, .int .i64 c4, .int .i64 2, .bool c6, .int .u64 c7, .int .i64 c8] 39); replace HBd := bl_alloc (bl_trans HBd hb) (.cells #[.bool false, .int .i64 c1, .bool c2, .int .u64 c3, .int .i64 c4, .int .i64 2, .bool c6, .int .u64 c7, .int .i64 c8] 39); have BX : Blk (w1.alloc (.cells #[.bool false, .int .i64 c1, .bool c2, .int .u64 c3, .int .i64 c4, .int .i64 2, .bool c6, .int .u64 c7, .int .i64 c8] 39)) w1.heap.size 39 #[.bool false, .int .i64 c1, .bool c2, .int .u64 c3, .int .i64 c4, .int .i64 2, .bool c6, .int .u64 c7, .int .i64 c8] := Blk.new w1 _ _; clear hb)
     generalize w1.alloc (.cells #[.bool false, .int .i64 c1, .bool c2, .int .u64 c3, .int .i64 c4, .int .i64 2, .bool c6, .int .u64 c7, .int .i64 c8] 39) = W1 at BX BR HBd ⊢
     generalize w1.heap.size = g at BX ⊢
     replace BX := BX.drew
     replace BR := BR.drew
     replace HBd := bl_drew HBd
     refine start_ (n := 7) (S := fun w' => w'.cell? ⟨g, 0, none⟩ = some (.bool false) ∧ w'.cell? ⟨g, 1, none⟩ = some (.int .i64 c1) ∧ w'.cell? ⟨g, 2, none⟩ = some (.bool c2) ∧ w'.cell? ⟨g, 3, none⟩ = some (.int .u64 c3) ∧ w'.cell? ⟨g, 4, none⟩ = some (.int .i64 c4) ∧ w'.cell? ⟨g, 5, none⟩ = some (.int .i64 2) ∧ w'.cell? ⟨g, 6, none⟩ = some (.bool c6) ∧ w'.cell? ⟨g, 7, none⟩ = some (.int .u64 c7) ∧ w'.cell? ⟨g, 8, none⟩ = some (.int .i64 c8)) (ds := []) (bq 7 0) (by kernel_rfl) rfl rfl ⟨BX.cell 0, BX.cell 1, BX.cell 2, BX.cell 3, BX.cell 4, BX.cell 5, BX.cell 6, BX.cell 7, BX.cell 8⟩ (fun hHeld => ?_)
     refine pure_ (i := 0) (N := some 7) (v := ?_) (a' := ?_) (bq 7 1) rfl rfl (by kernel_rfl) (fun _ _ _ h => h) (Or.inl ⟨by rfl, ?_⟩) ?_ ?_
     rotate_left
     ·intro w'
      go_simp
      with_reducible rfl
     rotate_left
     ·simp only [Act.put, pA, pB, pC]
      rfl
     refine take_ (i := 1) (N := some 8) (v := ?_) (a' := ?_) (bq 7 3) rfl rfl (by kernel_rfl) (fun _ _ _ h => h) (Or.inl ⟨by rfl, ?_⟩) hHeld ?_ ?_
     rotate_left
     ·rintro w' ⟨s0_, s1_, s2_, s3_, s4_, s5_, s6_, s7_, s8_⟩
      go_simp
      with_reducible rfl
     rotate_left
     ·simp only [Act.put, pA, pB, pC]
      rfl
     refine pure_ (i := 2) (N := some 9) (v := ?_) (a' := ?_) (bq 7 7) rfl rfl (by kernel_rfl) (fun _ _ _ h => h) (Or.inl ⟨by rfl, ?_⟩) ?_ ?_
     rotate_left
     ·intro w'
      go_simp
      with_reducible rfl
     rotate_left
     ·simp only [Act.put, pA, pB, pC]
      rfl
     refine take_ (i := 3) (N := some 10) (v := ?_) (a' := ?_) (bq 7 15) rfl rfl (by kernel_rfl) (fun _ _ _ h => h) (Or.inl ⟨by rfl, ?_⟩) hHeld ?_ ?_
     rotate_left
     ·rintro w' ⟨s0_, s1_, s2_, s3_, s4_, s5_, s6_, s7_, s8_⟩
      go_simp
      with_reducible rfl
     rotate_left
     ·simp only [Act.put, pA, pB, pC]
      rfl
     refine one_ (i := 4) (N := some 11) (bq 7 31) rfl rfl (by kernel_rfl) (by decide) (fun K hK => ?_)
     refine goes_ Tryz.func77 (by kernel_rfl) rfl #[] (by first | rfl | go_simp) rfl rfl (by simp only [List.map_toArray, List.map_cons, List.map_nil] <;> rfl) ?_
     with_reducible refine (r8all_lit _).mono ?_
     rintro e w2 ⟨rfl, hb⟩
     refine ⟨_, rfl, ?_⟩
     replace BX := BX.call hb
     replace BR := BR.call hb
     replace HBd := bl_trans HBd hb
     refine hK.out _ _ ⟨BX.cell 0, BX.cell 1, BX.cell 2, BX.cell 3, BX.cell 4, BX.cell 5, BX.cell 6, BX.cell 7, BX.cell 8⟩ (fun hHeld => ?_)
     clear hK K hb
     refine norm_ (a' := ?_) ?_ ?_
     rotate_left
     ·show Act.put _ (some 11) _ = _
      simp only [Act.put, pA, pB, pC]
      rfl
     refine pure_ (i := 5) (N := some 12) (v := ?_) (a' := ?_) (bq 7 63) rfl rfl (by kernel_rfl) (fun _ _ _ h => h) (Or.inl ⟨by rfl, ?_⟩) ?_ ?_
     rotate_left
     ·intro w'
      go_simp
      with_reducible rfl
     rotate_left
     ·simp only [Act.put, pA, pB, pC]
      rfl
     refine pure_ (i := 6) (N := some 13) (v := ?_) (a' := ?_) (bq 7 127) rfl rfl (by kernel_rfl) (fun _ _ _ h => h) (Or.inl ⟨by rfl, ?_⟩) ?_ ?_
     rotate_left
     ·intro w'
      go_simp
      with_reducible rfl
     rotate_left
     ·simp only [Act.put, pA, pB, pC]
      rfl
     refine done_ (by kernel_rfl) ?_

     clear hHeld
     obtain ⟨⟨q0, q1, q2, q3, q4, q5, q6, q7, q8⟩, _⟩ := BX.c9
     obtain ⟨⟨z0, z1, z2, z3⟩, ⟨k0, k1, k2, k3⟩⟩ := BR.c4
     go_wp2_with fail
     have B2 := ((((BR.set_ 0 (.int .i64 c1)).set_ 1 (.bool c2)).set_ 2 (.int .u64 c3)).set_ 3 (.int .i64 c4))
     have HB2 := ((((HBd.setCell (p := ⟨w.heap.size + 1, 0, none⟩) (by show w.heap.size ≤ w.heap.size + 1; omega) (.int .i64 c1)).setCell (p := ⟨w.heap.size + 1, 1, none⟩) (by show w.heap.size ≤ w.heap.size + 1; omega) (.bool c2)).setCell (p := ⟨w.heap.size + 1, 2, none⟩) (by show w.heap.size ≤ w.heap.size + 1; omega) (.int .u64 c3)).setCell (p := ⟨w.heap.size + 1, 3, none⟩) (by show w.heap.size ≤ w.heap.size + 1; omega) (.int .i64 c4))
     exact bodyPost_ret (results_cell_row rfl _ _ (w.heap.size + 1) 37 _ (0, 0) _ rfl B2 Tryz.underlying37 rfl (by kernel_rfl)) rfl ⟨rfl, HB2⟩
    ·rw [if_neg j2]
     have j2' : (c5 == 2) = false := by simpa using j2
     have HA := (fun w => r6add_calls c1 c2 c3 c4 c5 c6 c7 c8 false w wl wh (fl.more (by decide)) (fh.more (by decide)))
     have hm := addN_may wl wh false
     have hf := addN_few wl wh fl fh (by decide) (by decide) false
     generalize addN ⟨c1, c2, c3, c4⟩ ⟨c5, c6, c7, c8⟩ false = s at HA hm hf ⊢
     obtain ⟨s0, s1, s2, s3⟩ := s
     have HH := (fun w => r6half_calls s0 s1 s2 s3 false w hm.2 (hf.more (by decide)))
     generalize halfN ⟨s0, s1, s2, s3⟩ false = m at HH ⊢
     obtain ⟨m0, m1, m2, m3⟩ := m
     have HC1 := (fun w => rcmpN_calls m0 m1 m2 m3 c1 c2 c3 c4 w)
     have HC2 := (fun w => rcmpN_calls m0 m1 m2 m3 c5 c6 c7 c8 w)
     generalize cmpN ⟨m0, m1, m2, m3⟩ ⟨c1, c2, c3, c4⟩ = q at HC1 ⊢
     generalize cmpN ⟨m0, m1, m2, m3⟩ ⟨c5, c6, c7, c8⟩ = p at HC2 ⊢
     clear wl wh fl fh hm hf j1 j2
     replace HA := Lib.hid HA
     replace HH := Lib.hid HH
     replace HC1 := Lib.hid HC1
     replace HC2 := Lib.hid HC2
     by_cases jq : q < 0
     ·rw [if_pos jq]
      have BR : Blk _ (w.heap.size + 1) 37 #[.int .i64 0, .bool false, .int .u64 0, .int .i64 0] := Blk.new1 w (.cells #[.bool a0, .int .i64 a1, .bool a2, .int .u64 a3, .int .i64 a4, .int .i64 a5, .bool a6, .int .u64 a7, .int .i64 a8] 39) _ _
      have HBd := (bl_alloc (bl_alloc (Below.refl w.heap.size w) (.cells #[.bool a0, .int .i64 a1, .bool a2, .int .u64 a3, .int .i64 a4, .int .i64 a5, .bool a6, .int .u64 a7, .int .i64 a8] 39)) (.cells #[.int .i64 0, .bool false, .int .u64 0, .int .i64 0] 37))
      go_enter Tryz.func48, Tryz.ntmps48
      go_wp2_with (go_at_call 46; (with_reducible refine (HF.out _).mono ?_); rintro e1 w1 ⟨rfl, hb⟩; replace BR := (BR.call hb).alloc (.cells #[.bool false, .int .i64 c1, .bool c2, .int .u64 c3, .int .i64 c4, .int .i64 c5, .bool c6, .int .u64 c7, .int .i64 c8] 39); replace HBd := bl_alloc (bl_trans HBd hb) (.cells #[.bool false, .int .i64 c1, .bool c2, .int .u64 c3, .int .i64 c4, .int .i64 c5, .bool c6, .int .u64 c7, .int .i64 c8] 39); have BX : Blk (w1.alloc (.cells #[.bool false, .int .i64 c1, .bool c2, .int .u64 c3, .int .i64 c4, .int .i64 c5, .bool c6, .int .u64 c7, .int .i64 c8] 39)) w1.heap.size 39 #[.bool false, .int .i64 c1, .bool c2, .int .u64 c3, .int .i64 c4, .int .i64 c5, .bool c6, .int .u64 c7, .int .i64 c8] := Blk.new w1 _ _; clear hb)
      generalize w1.alloc (.cells #[.bool false, .int .i64 c1, .bool c2, .int .u64 c3, .int .i64 c4, .int .i64 c5, .bool c6, .int .u64 c7, .int .i64 c8] 39) = W1 at BX BR HBd ⊢
      generalize w1.heap.size = g at BX ⊢
      replace BX := BX.drew
      replace BR := BR.drew
      replace HBd := bl_drew HBd
      refine start_ (n := 7) (S := fun w' => w'.cell? ⟨g, 0, none⟩ = some (.bool false) ∧ w'.cell? ⟨g, 1, none⟩ = some (.int .i64 c1) ∧ w'.cell? ⟨g, 2, none⟩ = some (.bool c2) ∧ w'.cell? ⟨g, 3, none⟩ = some (.int .u64 c3) ∧ w'.cell? ⟨g, 4, none⟩ = some (.int .i64 c4) ∧ w'.cell? ⟨g, 5, none⟩ = some (.int .i64 c5) ∧ w'.cell? ⟨g, 6, none⟩ = some (.bool c6) ∧ w'.cell? ⟨g, 7, none⟩ = some (.int .u64 c7) ∧ w'.cell? ⟨g, 8, none⟩ = some (.int .i64 c8)) (ds := []) (bq 7 0) (by kernel_rfl) rfl rfl ⟨BX.cell 0, BX.cell 1, BX.cell 2, BX.cell 3, BX.cell 4, BX.cell 5, BX.cell 6, BX.cell 7, BX.cell 8⟩ (fun hHeld => ?_)
      refine pure_ (i := 0) (N := some 7) (v := ?_) (a' := ?_) (bq 7 1) rfl rfl (by kernel_rfl) (fun _ _ _ h => h) (Or.inl ⟨by rfl, ?_⟩) ?_ ?_
      rotate_left
      ·intro w'
       go_simp
       with_reducible rfl
      rotate_left
      ·simp only [Act.put, pA, pB, pC]
       rfl
      refine take_ (i := 1) (N := some 8) (v := ?_) (a' := ?_) (bq 7 3) rfl rfl (by kernel_rfl) (fun _ _ _ h => h) (Or.inl ⟨by rfl, ?_⟩) hHeld ?_ ?_
      rotate_left
      ·rintro w' ⟨s0_, s1_, s2_, s3_, s4_, s5_, s6_, s7_, s8_⟩
       go_simp
       with_reducible rfl
      rotate_left
      ·simp only [Act.put, pA, pB, pC]
       rfl
      refine pure_ (i := 2) (N := some 9) (v := ?_) (a' := ?_) (bq 7 7) rfl rfl (by kernel_rfl) (fun _ _ _ h => h) (Or.inl ⟨by rfl, ?_⟩) ?_ ?_
      rotate_left
      ·intro w'
       go_simp
       with_reducible rfl
      rotate_left
      ·simp only [Act.put, pA, pB, pC]
       rfl
      refine take_ (i := 3) (N := some 10) (v := ?_) (a' := ?_) (bq 7 15) rfl rfl (by kernel_rfl) (fun _ _ _ h => h) (Or.inl ⟨by rfl, ?_⟩) hHeld ?_ ?_
      rotate_left
      ·rintro w' ⟨s0_, s1_, s2_, s3_, s4_, s5_, s6_, s7_, s8_⟩
       go_simp
       with_reducible rfl
      rotate_left
      ·simp only [Act.put, pA, pB, pC]
       rfl
      refine one_ (i := 4) (N := some 11) (bq 7 31) rfl rfl (by kernel_rfl) (by decide) (fun K hK => ?_)
      refine goes_ Tryz.func77 (by kernel_rfl) rfl #[] (by first | rfl | go_simp) rfl rfl (by simp only [List.map_toArray, List.map_cons, List.map_nil] <;> rfl) ?_
      with_reducible refine (r8all_lit _).mono ?_
      rintro e w2 ⟨rfl, hb⟩
      refine ⟨_, rfl, ?_⟩
      replace BX := BX.call hb
      replace BR := BR.call hb
      replace HBd := bl_trans HBd hb
      refine hK.out _ _ ⟨BX.cell 0, BX.cell 1, BX.cell 2, BX.cell 3, BX.cell 4, BX.cell 5, BX.cell 6, BX.cell 7, BX.cell 8⟩ (fun hHeld => ?_)
      clear hK K hb
      refine norm_ (a' := ?_) ?_ ?_
      rotate_left
      ·show Act.put _ (some 11) _ = _
       simp only [Act.put, pA, pB, pC]
       rfl
      refine pure_ (i := 5) (N := some 12) (v := ?_) (a' := ?_) (bq 7 63) rfl rfl (by kernel_rfl) (fun _ _ _ h => h) (Or.inl ⟨by rfl, ?_⟩) ?_ ?_
      rotate_left
      ·intro w'
       go_simp
       with_reducible rfl
      rotate_left
      ·simp only [Act.put, pA, pB, pC]
       rfl
      refine pure_ (i := 6) (N := some 13) (v := ?_) (a' := ?_) (bq 7 127) rfl rfl (by kernel_rfl) (fun _ _ _ h => h) (Or.inl ⟨by rfl, ?_⟩) ?_ ?_
      rotate_left
      ·intro w'
       go_simp
       with_reducible rfl
      rotate_left
      ·simp only [Act.put, pA, pB, pC]
       rfl
      refine done_ (by kernel_rfl) ?_

      clear hHeld
      obtain ⟨⟨q0, q1, q2, q3, q4, q5, q6, q7, q8⟩, _⟩ := BX.c9
      obtain ⟨⟨z0, z1, z2, z3⟩, ⟨k0, k1, k2, k3⟩⟩ := BR.c4
      go_wp2_with (first
       | (go_at_call 79; (with_reducible refine (HA.out _).mono ?_); rintro e3 w3 ⟨rfl, hb⟩; replace BX := BX.call hb; replace BR := BR.call hb; replace HBd := bl_trans HBd hb; clear q0 q1 q2 q3 q4 q5 q6 q7 q8 z0 z1 z2 z3 k0 k1 k2 k3 hb)
       | (go_at_call 78; (with_reducible refine (HH.out _).mono ?_); rintro e4 w4 ⟨rfl, hb⟩; replace BX := (BX.call hb).alloc (.cells #[.int .i64 m0, .bool m1, .int .u64 m2, .int .i64 m3] 37); replace BR := (BR.call hb).alloc (.cells #[.int .i64 m0, .bool m1, .int .u64 m2, .int .i64 m3] 37); have BM : Blk (w4.alloc (.cells #[.int .i64 m0, .bool m1, .int .u64 m2, .int .i64 m3] 37)) w4.heap.size 37 #[.int .i64 m0, .bool m1, .int .u64 m2, .int .i64 m3] := Blk.new w4 _ _; replace HBd := bl_alloc (bl_trans HBd hb) (.cells #[.int .i64 m0, .bool m1, .int .u64 m2, .int .i64 m3] 37); obtain ⟨⟨q0, q1, q2, q3, q4, q5, q6, q7, q8⟩, _⟩ := BX.c9; obtain ⟨⟨y0, y1, y2, y3⟩, _⟩ := BM.c4; clear hb)
       | (go_at_call 27; (with_reducible refine (HC1.out _).mono ?_); rintro e5 w5 ⟨rfl, hb⟩; replace BX := BX.call hb; replace BM := BM.call hb; replace BR := BR.call hb; replace HBd := bl_trans HBd hb; clear q0 q1 q2 q3 q4 q5 q6 q7 q8 y0 y1 y2 y3; obtain ⟨⟨q0, q1, q2, q3, q4, q5, q6, q7, q8⟩, _⟩ := BX.c9; obtain ⟨⟨y0, y1, y2, y3⟩, _⟩ := BM.c4; obtain ⟨⟨z0, z1, z2, z3⟩, ⟨k0, k1, k2, k3⟩⟩ := BR.c4; clear hb)
       | (go_at_call 27; (with_reducible refine (HC2.out _).mono ?_); rintro e6 w6 ⟨rfl, hb⟩; replace BX := BX.call hb; replace BM := BM.call hb; replace BR := BR.call hb; replace HBd := bl_trans HBd hb; clear q0 q1 q2 q3 q4 q5 q6 q7 q8 y0 y1 y2 y3 z0 z1 z2 z3 k0 k1 k2 k3; obtain ⟨⟨q0, q1, q2, q3, q4, q5, q6, q7, q8⟩, _⟩ := BX.c9; obtain ⟨⟨y0, y1, y2, y3⟩, _⟩ := BM.c4; obtain ⟨⟨z0, z1, z2, z3⟩, ⟨k0, k1, k2, k3⟩⟩ := BR.c4; clear hb))
      have B2 := ((((BR.set_ 0 (.int .i64 c1)).set_ 1 (.bool c2)).set_ 2 (.int .u64 c3)).set_ 3 (.int .i64 c4))
      have HB2 := ((((HBd.setCell (p := ⟨w.heap.size + 1, 0, none⟩) (by show w.heap.size ≤ w.heap.size + 1; omega) (.int .i64 c1)).setCell (p := ⟨w.heap.size + 1, 1, none⟩) (by show w.heap.size ≤ w.heap.size + 1; omega) (.bool c2)).setCell (p := ⟨w.heap.size + 1, 2, none⟩) (by show w.heap.size ≤ w.heap.size + 1; omega) (.int .u64 c3)).setCell (p := ⟨w.heap.size + 1, 3, none⟩) (by show w.heap.size ≤ w.heap.size + 1; omega) (.int .i64 c4))
      exact bodyPost_ret (results_cell_row rfl _ _ (w.heap.size + 1) 37 _ (0, 0) _ rfl B2 Tryz.underlying37 rfl (by kernel_rfl)) rfl ⟨rfl, HB2⟩
     ·rw [if_neg jq]
      by_cases jp : 0 < p
      ·rw [if_pos jp]
       have BR : Blk _ (w.heap.size + 1) 37 #[.int .i64 0, .bool false, .int .u64 0, .int .i64 0] := Blk.new1 w (.cells #[.bool a0, .int .i64 a1, .bool a2, .int .u64 a3, .int .i64 a4, .int .i64 a5, .bool a6, .int .u64 a7, .int .i64 a8] 39) _ _
       have HBd := (bl_alloc (bl_alloc (Below.refl w.heap.size w) (.cells #[.bool a0, .int .i64 a1, .bool a2, .int .u64 a3, .int .i64 a4, .int .i64 a5, .bool a6, .int .u64 a7, .int .i64 a8] 39)) (.cells #[.int .i64 0, .bool false, .int .u64 0, .int .i64 0] 37))
       go_enter Tryz.func48, Tryz.ntmps48
       go_wp2_with (go_at_call 46; (with_reducible refine (HF.out _).mono ?_); rintro e1 w1 ⟨rfl, hb⟩; replace BR := (BR.call hb).alloc (.cells #[.bool false, .int .i64 c1, .bool c2, .int .u64 c3, .int .i64 c4, .int .i64 c5, .bool c6, .int .u64 c7, .int .i64 c8] 39); replace HBd := bl_alloc (bl_trans HBd hb) (.cells #[.bool false, .int .i64 c1, .bool c2, .int .u64 c3, .int .i64 c4, .int .i64 c5, .bool c6, .int .u64 c7, .int .i64 c8] 39); have BX : Blk (w1.alloc (.cells #[.bool false, .int .i64 c1, .bool c2, .int .u64 c3, .int .i64 c4, .int .i64 c5, .bool c6, .int .u64 c7, .int .i64 c8] 39)) w1.heap.size 39 #[.bool false, .int .i64 c1, .bool c2, .int .u64 c3, .int .i64 c4, .int .i64 c5, .bool c6, .int .u64 c7, .int .i64 c8] := Blk.new w1 _ _; clear hb)
       generalize w1.alloc (.cells #[.bool false, .int .i64 c1, .bool c2, .int .u64 c3, .int .i64 c4, .int .i64 c5, .bool c6, .int .u64 c7, .int .i64 c8] 39) = W1 at BX BR HBd ⊢
       generalize w1.heap.size = g at BX ⊢
       replace BX := BX.drew
       replace BR := BR.drew
       replace HBd := bl_drew HBd
       refine start_ (n := 7) (S := fun w' => w'.cell? ⟨g, 0, none⟩ = some (.bool false) ∧ w'.cell? ⟨g, 1, none⟩ = some (.int .i64 c1) ∧ w'.cell? ⟨g, 2, none⟩ = some (.bool c2) ∧ w'.cell? ⟨g, 3, none⟩ = some (.int .u64 c3) ∧ w'.cell? ⟨g, 4, none⟩ = some (.int .i64 c4) ∧ w'.cell? ⟨g, 5, none⟩ = some (.int .i64 c5) ∧ w'.cell? ⟨g, 6, none⟩ = some (.bool c6) ∧ w'.cell? ⟨g, 7, none⟩ = some (.int .u64 c7) ∧ w'.cell? ⟨g, 8, none⟩ = some (.int .i64 c8)) (ds := []) (bq 7 0) (by kernel_rfl) rfl rfl ⟨BX.cell 0, BX.cell 1, BX.cell 2, BX.cell 3, BX.cell 4, BX.cell 5, BX.cell 6, BX.cell 7, BX.cell 8⟩ (fun hHeld => ?_)
       refine pure_ (i := 0) (N := some 7) (v := ?_) (a' := ?_) (bq 7 1) rfl rfl (by kernel_rfl) (fun _ _ _ h => h) (Or.inl ⟨by rfl, ?_⟩) ?_ ?_
       rotate_left
       ·intro w'
        go_simp
        with_reducible rfl
       rotate_left
       ·simp only [Act.put, pA, pB, pC]
        rfl
       refine take_ (i := 1) (N := some 8) (v := ?_) (a' := ?_) (bq 7 3) rfl rfl (by kernel_rfl) (fun _ _ _ h => h) (Or.inl ⟨by rfl, ?_⟩) hHeld ?_ ?_
       rotate_left
       ·rintro w' ⟨s0_, s1_, s2_, s3_, s4_, s5_, s6_, s7_, s8_⟩
        go_simp
        with_reducible rfl
       rotate_left
       ·simp only [Act.put, pA, pB, pC]
        rfl
       refine pure_ (i := 2) (N := some 9) (v := ?_) (a' := ?_) (bq 7 7) rfl rfl (by kernel_rfl) (fun _ _ _ h => h) (Or.inl ⟨by rfl, ?_⟩) ?_ ?_
       rotate_left
       ·intro w'
        go_simp
        with_reducible rfl
       rotate_left
       ·simp only [Act.put, pA, pB, pC]
        rfl
       refine take_ (i := 3) (N := some 10) (v := ?_) (a' := ?_) (bq 7 15) rfl rfl (by kernel_rfl) (fun _ _ _ h => h) (Or.inl ⟨by rfl, ?_⟩) hHeld ?_ ?_
       rotate_left
       ·rintro w' ⟨s0_, s1_, s2_, s3_, s4_, s5_, s6_, s7_, s8_⟩
        go_simp
        with_reducible rfl
       rotate_left
       ·simp only [Act.put, pA, pB, pC]
        rfl
       refine one_ (i := 4) (N := some 11) (bq 7 31) rfl rfl (by kernel_rfl) (by decide) (fun K hK => ?_)
       refine goes_ Tryz.func77 (by kernel_rfl) rfl #[] (by first | rfl | go_simp) rfl rfl (by simp only [List.map_toArray, List.map_cons, List.map_nil] <;> rfl) ?_
       with_reducible refine (r8all_lit _).mono ?_
       rintro e w2 ⟨rfl, hb⟩
       refine ⟨_, rfl, ?_⟩
       replace BX := BX.call hb
       replace BR := BR.call hb
       replace HBd := bl_trans HBd hb
       refine hK.out _ _ ⟨BX.cell 0, BX.cell 1, BX.cell 2, BX.cell 3, BX.cell 4, BX.cell 5, BX.cell 6, BX.cell 7, BX.cell 8⟩ (fun hHeld => ?_)
       clear hK K hb
       refine norm_ (a' := ?_) ?_ ?_
       rotate_left
       ·show Act.put _ (some 11) _ = _
        simp only [Act.put, pA, pB, pC]
        rfl
       refine pure_ (i := 5) (N := some 12) (v := ?_) (a' := ?_) (bq 7 63) rfl rfl (by kernel_rfl) (fun _ _ _ h => h) (Or.inl ⟨by rfl, ?_⟩) ?_ ?_
       rotate_left
       ·intro w'
        go_simp
        with_reducible rfl
       rotate_left
       ·simp only [Act.put, pA, pB, pC]
        rfl
       refine pure_ (i := 6) (N := some 13) (v := ?_) (a' := ?_) (bq 7 127) rfl rfl (by kernel_rfl) (fun _ _ _ h => h) (Or.inl ⟨by rfl, ?_⟩) ?_ ?_
       rotate_left
       ·intro w'
        go_simp
        with_reducible rfl
       rotate_left
       ·simp only [Act.put, pA, pB, pC]
        rfl
       refine done_ (by kernel_rfl) ?_

       clear hHeld
       obtain ⟨⟨q0, q1, q2, q3, q4, q5, q6, q7, q8⟩, _⟩ := BX.c9
       obtain ⟨⟨z0, z1, z2, z3⟩, ⟨k0, k1, k2, k3⟩⟩ := BR.c4
       go_wp2_with (first
        | (go_at_call 79; (with_reducible refine (HA.out _).mono ?_); rintro e3 w3 ⟨rfl, hb⟩; replace BX := BX.call hb; replace BR := BR.call hb; replace HBd := bl_trans HBd hb; clear q0 q1 q2 q3 q4 q5 q6 q7 q8 z0 z1 z2 z3 k0 k1 k2 k3 hb)
        | (go_at_call 78; (with_reducible refine (HH.out _).mono ?_); rintro e4 w4 ⟨rfl, hb⟩; replace BX := (BX.call hb).alloc (.cells #[.int .i64 m0, .bool m1, .int .u64 m2, .int .i64 m3] 37); replace BR := (BR.call hb).alloc (.cells #[.int .i64 m0, .bool m1, .int .u64 m2, .int .i64 m3] 37); have BM : Blk (w4.alloc (.cells #[.int .i64 m0, .bool m1, .int .u64 m2, .int .i64 m3] 37)) w4.heap.size 37 #[.int .i64 m0, .bool m1, .int .u64 m2, .int .i64 m3] := Blk.new w4 _ _; replace HBd := bl_alloc (bl_trans HBd hb) (.cells #[.int .i64 m0, .bool m1, .int .u64 m2, .int .i64 m3] 37); obtain ⟨⟨q0, q1, q2, q3, q4, q5, q6, q7, q8⟩, _⟩ := BX.c9; obtain ⟨⟨y0, y1, y2, y3⟩, _⟩ := BM.c4; clear hb)
        | (go_at_call 27; (with_reducible refine (HC1.out _).mono ?_); rintro e5 w5 ⟨rfl, hb⟩; replace BX := BX.call hb; replace BM := BM.call hb; replace BR := BR.call hb; replace HBd := bl_trans HBd hb; clear q0 q1 q2 q3 q4 q5 q6 q7 q8 y0 y1 y2 y3; obtain ⟨⟨q0, q1, q2, q3, q4, q5, q6, q7, q8⟩, _⟩ := BX.c9; obtain ⟨⟨y0, y1, y2, y3⟩, _⟩ := BM.c4; obtain ⟨⟨z0, z1, z2, z3⟩, ⟨k0, k1, k2, k3⟩⟩ := BR.c4; clear hb)
        | (go_at_call 27; (with_reducible refine (HC2.out _).mono ?_); rintro e6 w6 ⟨rfl, hb⟩; replace BX := BX.call hb; replace BM := BM.call hb; replace BR := BR.call hb; replace HBd := bl_trans HBd hb; clear q0 q1 q2 q3 q4 q5 q6 q7 q8 y0 y1 y2 y3 z0 z1 z2 z3 k0 k1 k2 k3; obtain ⟨⟨q0, q1, q2, q3, q4, q5, q6, q7, q8⟩, _⟩ := BX.c9; obtain ⟨⟨y0, y1, y2, y3⟩, _⟩ := BM.c4; obtain ⟨⟨z0, z1, z2, z3⟩, ⟨k0, k1, k2, k3⟩⟩ := BR.c4; clear hb))
       have B2 := ((((BR.set_ 0 (.int .i64 c5)).set_ 1 (.bool c6)).set_ 2 (.int .u64 c7)).set_ 3 (.int .i64 c8))
       have HB2 := ((((HBd.setCell (p := ⟨w.heap.size + 1, 0, none⟩) (by show w.heap.size ≤ w.heap.size + 1; omega) (.int .i64 c5)).setCell (p := ⟨w.heap.size + 1, 1, none⟩) (by show w.heap.size ≤ w.heap.size + 1; omega) (.bool c6)).setCell (p := ⟨w.heap.size + 1, 2, none⟩) (by show w.heap.size ≤ w.heap.size + 1; omega) (.int .u64 c7)).setCell (p := ⟨w.heap.size + 1, 3, none⟩) (by show w.heap.size ≤ w.heap.size + 1; omega) (.int .i64 c8))
       exact bodyPost_ret (results_cell_row rfl _ _ (w.heap.size + 1) 37 _ (0, 0) _ rfl B2 Tryz.underlying37 rfl (by kernel_rfl)) rfl ⟨rfl, HB2⟩
      ·rw [if_neg jp]
       have BR : Blk _ (w.heap.size + 1) 37 #[.int .i64 0, .bool false, .int .u64 0, .int .i64 0] := Blk.new1 w (.cells #[.bool a0, .int .i64 a1, .bool a2, .int .u64 a3, .int .i64 a4, .int .i64 a5, .bool a6, .int .u64 a7, .int .i64 a8] 39) _ _
       have HBd := (bl_alloc (bl_alloc (Below.refl w.heap.size w) (.cells #[.bool a0, .int .i64 a1, .bool a2, .int .u64 a3, .int .i64 a4, .int .i64 a5, .bool a6, .int .u64 a7, .int .i64 a8] 39)) (.cells #[.int .i64 0, .bool false, .int .u64 0, .int .i64 0] 37))
       go_enter Tryz.func48, Tryz.ntmps48
       go_wp2_with (go_at_call 46; (with_reducible refine (HF.out _).mono ?_); rintro e1 w1 ⟨rfl, hb⟩; replace BR := (BR.call hb).alloc (.cells #[.bool false, .int .i64 c1, .bool c2, .int .u64 c3, .int .i64 c4, .int .i64 c5, .bool c6, .int .u64 c7, .int .i64 c8] 39); replace HBd := bl_alloc (bl_trans HBd hb) (.cells #[.bool false, .int .i64 c1, .bool c2, .int .u64 c3, .int .i64 c4, .int .i64 c5, .bool c6, .int .u64 c7, .int .i64 c8] 39); have BX : Blk (w1.alloc (.cells #[.bool false, .int .i64 c1, .bool c2, .int .u64 c3, .int .i64 c4, .int .i64 c5, .bool c6, .int .u64 c7, .int .i64 c8] 39)) w1.heap.size 39 #[.bool false, .int .i64 c1, .bool c2, .int .u64 c3, .int .i64 c4, .int .i64 c5, .bool c6, .int .u64 c7, .int .i64 c8] := Blk.new w1 _ _; clear hb)
       generalize w1.alloc (.cells #[.bool false, .int .i64 c1, .bool c2, .int .u64 c3, .int .i64 c4, .int .i64 c5, .bool c6, .int .u64 c7, .int .i64 c8] 39) = W1 at BX BR HBd ⊢
       generalize w1.heap.size = g at BX ⊢
       replace BX := BX.drew
       replace BR := BR.drew
       replace HBd := bl_drew HBd
       refine start_ (n := 7) (S := fun w' => w'.cell? ⟨g, 0, none⟩ = some (.bool false) ∧ w'.cell? ⟨g, 1, none⟩ = some (.int .i64 c1) ∧ w'.cell? ⟨g, 2, none⟩ = some (.bool c2) ∧ w'.cell? ⟨g, 3, none⟩ = some (.int .u64 c3) ∧ w'.cell? ⟨g, 4, none⟩ = some (.int .i64 c4) ∧ w'.cell? ⟨g, 5, none⟩ = some (.int .i64 c5) ∧ w'.cell? ⟨g, 6, none⟩ = some (.bool c6) ∧ w'.cell? ⟨g, 7, none⟩ = some (.int .u64 c7) ∧ w'.cell? ⟨g, 8, none⟩ = some (.int .i64 c8)) (ds := []) (bq 7 0) (by kernel_rfl) rfl rfl ⟨BX.cell 0, BX.cell 1, BX.cell 2, BX.cell 3, BX.cell 4, BX.cell 5, BX.cell 6, BX.cell 7, BX.cell 8⟩ (fun hHeld => ?_)
       refine pure_ (i := 0) (N := some 7) (v := ?_) (a' := ?_) (bq 7 1) rfl rfl (by kernel_rfl) (fun _ _ _ h => h) (Or.inl ⟨by rfl, ?_⟩) ?_ ?_
       rotate_left
       ·intro w'
        go_simp
        with_reducible rfl
       rotate_left
       ·simp only [Act.put, pA, pB, pC]
        rfl
       refine take_ (i := 1) (N := some 8) (v := ?_) (a' := ?_) (bq 7 3) rfl rfl (by kernel_rfl) (fun _ _ _ h => h) (Or.inl ⟨by rfl, ?_⟩) hHeld ?_ ?_
       rotate_left
       ·rintro w' ⟨s0_, s1_, s2_, s3_, s4_, s5_, s6_, s7_, s8_⟩
        go_simp
        with_reducible rfl
       rotate_left
       ·simp only [Act.put, pA, pB, pC]
        rfl
       refine pure_ (i := 2) (N := some 9) (v := ?_) (a' := ?_) (bq 7 7) rfl rfl (by kernel_rfl) (fun _ _ _ h => h) (Or.inl ⟨by rfl, ?_⟩) ?_ ?_
       rotate_left
       ·intro w'
        go_simp
        with_reducible rfl
       rotate_left
       ·simp only [Act.put, pA, pB, pC]
        rfl
       refine take_ (i := 3) (N := some 10) (v := ?_) (a' := ?_) (bq 7 15) rfl rfl (by kernel_rfl) (fun _ _ _ h => h) (Or.inl ⟨by rfl, ?_⟩) hHeld ?_ ?_
       rotate_left
       ·rintro w' ⟨s0_, s1_, s2_, s3_, s4_, s5_, s6_, s7_, s8_⟩
        go_simp
        with_reducible rfl
       rotate_left
       ·simp only [Act.put, pA, pB, pC]
        rfl
       refine one_ (i := 4) (N := some 11) (bq 7 31) rfl rfl (by kernel_rfl) (by decide) (fun K hK => ?_)
       refine goes_ Tryz.func77 (by kernel_rfl) rfl #[] (by first | rfl | go_simp) rfl rfl (by simp only [List.map_toArray, List.map_cons, List.map_nil] <;> rfl) ?_
       with_reducible refine (r8all_lit _).mono ?_
       rintro e w2 ⟨rfl, hb⟩
       refine ⟨_, rfl, ?_⟩
       replace BX := BX.call hb
       replace BR := BR.call hb
       replace HBd := bl_trans HBd hb
       refine hK.out _ _ ⟨BX.cell 0, BX.cell 1, BX.cell 2, BX.cell 3, BX.cell 4, BX.cell 5, BX.cell 6, BX.cell 7, BX.cell 8⟩ (fun hHeld => ?_)
       clear hK K hb
       refine norm_ (a' := ?_) ?_ ?_
       rotate_left
       ·show Act.put _ (some 11) _ = _
        simp only [Act.put, pA, pB, pC]
        rfl
       refine pure_ (i := 5) (N := some 12) (v := ?_) (a' := ?_) (bq 7 63) rfl rfl (by kernel_rfl) (fun _ _ _ h => h) (Or.inl ⟨by rfl, ?_⟩) ?_ ?_
       rotate_left
       ·intro w'
        go_simp
        with_reducible rfl
       rotate_left
       ·simp only [Act.put, pA, pB, pC]
        rfl
       refine pure_ (i := 6) (N := some 13) (v := ?_) (a' := ?_) (bq 7 127) rfl rfl (by kernel_rfl) (fun _ _ _ h => h) (Or.inl ⟨by rfl, ?_⟩) ?_ ?_
       rotate_left
       ·intro w'
        go_simp
        with_reducible rfl
       rotate_left
       ·simp only [Act.put, pA, pB, pC]
        rfl
       refine done_ (by kernel_rfl) ?_

       clear hHeld
       obtain ⟨⟨q0, q1, q2, q3, q4, q5, q6, q7, q8⟩, _⟩ := BX.c9
       obtain ⟨⟨z0, z1, z2, z3⟩, ⟨k0, k1, k2, k3⟩⟩ := BR.c4
       go_wp2_with (first
        | (go_at_call 79; (with_reducible refine (HA.out _).mono ?_); rintro e3 w3 ⟨rfl, hb⟩; replace BX := BX.call hb; replace BR := BR.call hb; replace HBd := bl_trans HBd hb; clear q0 q1 q2 q3 q4 q5 q6 q7 q8 z0 z1 z2 z3 k0 k1 k2 k3 hb)
        | (go_at_call 78; (with_reducible refine (HH.out _).mono ?_); rintro e4 w4 ⟨rfl, hb⟩; replace BX := (BX.call hb).alloc (.cells #[.int .i64 m0, .bool m1, .int .u64 m2, .int .i64 m3] 37); replace BR := (BR.call hb).alloc (.cells #[.int .i64 m0, .bool m1, .int .u64 m2, .int .i64 m3] 37); have BM : Blk (w4.alloc (.cells #[.int .i64 m0, .bool m1, .int .u64 m2, .int .i64 m3] 37)) w4.heap.size 37 #[.int .i64 m0, .bool m1, .int .u64 m2, .int .i64 m3] := Blk.new w4 _ _; replace HBd := bl_alloc (bl_trans HBd hb) (.cells #[.int .i64 m0, .bool m1, .int .u64 m2, .int .i64 m3] 37); obtain ⟨⟨q0, q1, q2, q3, q4, q5, q6, q7, q8⟩, _⟩ := BX.c9; obtain ⟨⟨y0, y1, y2, y3⟩, _⟩ := BM.c4; clear hb)
        | (go_at_call 27; (with_reducible refine (HC1.out _).mono ?_); rintro e5 w5 ⟨rfl, hb⟩; replace BX := BX.call hb; replace BM := BM.call hb; replace BR := BR.call hb; replace HBd := bl_trans HBd hb; clear q0 q1 q2 q3 q4 q5 q6 q7 q8 y0 y1 y2 y3; obtain ⟨⟨q0, q1, q2, q3, q4, q5, q6, q7, q8⟩, _⟩ := BX.c9; obtain ⟨⟨y0, y1, y2, y3⟩, _⟩ := BM.c4; obtain ⟨⟨z0, z1, z2, z3⟩, ⟨k0, k1, k2, k3⟩⟩ := BR.c4; clear hb)
        | (go_at_call 27; (with_reducible refine (HC2.out _).mono ?_); rintro e6 w6 ⟨rfl, hb⟩; replace BX := BX.call hb; replace BM := BM.call hb; replace BR := BR.call hb; replace HBd := bl_trans HBd hb; clear q0 q1 q2 q3 q4 q5 q6 q7 q8 y0 y1 y2 y3 z0 z1 z2 z3 k0 k1 k2 k3; obtain ⟨⟨q0, q1, q2, q3, q4, q5, q6, q7, q8⟩, _⟩ := BX.c9; obtain ⟨⟨y0, y1, y2, y3⟩, _⟩ := BM.c4; obtain ⟨⟨z0, z1, z2, z3⟩, ⟨k0, k1, k2, k3⟩⟩ := BR.c4; clear hb))
       have B2 := ((((BR.set_ 0 (.int .i64 m0)).set_ 1 (.bool m1)).set_ 2 (.int .u64 m2)).set_ 3 (.int .i64 m3))
       have HB2 := ((((HBd.setCell (p := ⟨w.heap.size + 1, 0, none⟩) (by show w.heap.size ≤ w.heap.size + 1; omega) (.int .i64 m0)).setCell (p := ⟨w.heap.size + 1, 1, none⟩) (by show w.heap.size ≤ w.heap.size + 1; omega) (.bool m1)).setCell (p := ⟨w.heap.size + 1, 2, none⟩) (by show w.heap.size ≤ w.heap.size + 1; omega) (.int .u64 m2)).setCell (p := ⟨w.heap.size + 1, 3, none⟩) (by show w.heap.size ≤ w.heap.size + 1; omega) (.int .i64 m3))
       exact bodyPost_ret (results_cell_row rfl _ _ (w.heap.size + 1) 37 _ (0, 0) _ rfl B2 Tryz.underlying37 rfl (by kernel_rfl)) rfl ⟨rfl, HB2⟩
 ·rw [if_pos rfl]
  clear hn wl wh fl fh
  show Calls _ _ _ _ fun e w' => e = .returned (.agg #[.int .i64 0, .bool false, .int .u64 0, .int .i64 0]) ∧ Below w.heap.size w w'
  have BR : Blk _ (w.heap.size + 1) 37 #[.int .i64 0, .bool false, .int .u64 0, .int .i64 0] := Blk.new1 w (.cells #[.bool a0, .int .i64 a1, .bool a2, .int .u64 a3, .int .i64 a4, .int .i64 a5, .bool a6, .int .u64 a7, .int .i64 a8] 39) _ _
  have HBd := (bl_alloc (bl_alloc (Below.refl w.heap.size w) (.cells #[.bool a0, .int .i64 a1, .bool a2, .int .u64 a3, .int .i64 a4, .int .i64 a5, .bool a6, .int .u64 a7, .int .i64 a8] 39)) (.cells #[.int .i64 0, .bool false, .int .u64 0, .int .i64 0] 37))
  go_enter Tryz.func48, Tryz.ntmps48
  go_wp2_with (go_at_call 46; (with_reducible refine (HF.out _).mono ?_); rintro e1 w1 ⟨rfl, hb⟩; replace BR := (BR.call hb).alloc (.cells #[.bool true, .int .i64 c1, .bool c2, .int .u64 c3, .int .i64 c4, .int .i64 c5, .bool c6, .int .u64 c7, .int .i64 c8] 39); replace HBd := bl_alloc (bl_trans HBd hb) (.cells #[.bool true, .int .i64 c1, .bool c2, .int .u64 c3, .int .i64 c4, .int .i64 c5, .bool c6, .int .u64 c7, .int .i64 c8] 39); have BX : Blk (w1.alloc (.cells #[.bool true, .int .i64 c1, .bool c2, .int .u64 c3, .int .i64 c4, .int .i64 c5, .bool c6, .int .u64 c7, .int .i64 c8] 39)) w1.heap.size 39 #[.bool true, .int .i64 c1, .bool c2, .int .u64 c3, .int .i64 c4, .int .i64 c5, .bool c6, .int .u64 c7, .int .i64 c8] := Blk.new w1 _ _; clear hb)
  generalize w1.alloc (.cells #[.bool true, .int .i64 c1, .bool c2, .int .u64 c3, .int .i64 c4, .int .i64 c5, .bool c6, .int .u64 c7, .int .i64 c8] 39) = W1 at BX BR HBd ⊢
  generalize w1.heap.size = g at BX ⊢
  replace BX := BX.drew
  replace BR := BR.drew
  replace HBd := bl_drew HBd
  refine start_ (n := 7) (S := fun w' => w'.cell? ⟨g, 0, none⟩ = some (.bool true) ∧ w'.cell? ⟨g, 1, none⟩ = some (.int .i64 c1) ∧ w'.cell? ⟨g, 2, none⟩ = some (.bool c2) ∧ w'.cell? ⟨g, 3, none⟩ = some (.int .u64 c3) ∧ w'.cell? ⟨g, 4, none⟩ = some (.int .i64 c4) ∧ w'.cell? ⟨g, 5, none⟩ = some (.int .i64 c5) ∧ w'.cell? ⟨g, 6, none⟩ = some (.bool c6) ∧ w'.cell? ⟨g, 7, none⟩ = some (.int .u64 c7) ∧ w'.cell? ⟨g, 8, none⟩ = some (.int .i64 c8)) (ds := []) (bq 7 0) (by kernel_rfl) rfl rfl ⟨BX.cell 0, BX.cell 1, BX.cell 2, BX.cell 3, BX.cell 4, BX.cell 5, BX.cell 6, BX.cell 7, BX.cell 8⟩ (fun hHeld => ?_)
  refine pure_ (i := 0) (N := some 7) (v := ?_) (a' := ?_) (bq 7 1) rfl rfl (by kernel_rfl) (fun _ _ _ h => h) (Or.inl ⟨by rfl, ?_⟩) ?_ ?_
  rotate_left
  ·intro w'
   go_simp
   with_reducible rfl
  rotate_left
  ·simp only [Act.put, pA, pB, pC]
   rfl
  refine take_ (i := 1) (N := some 8) (v := ?_) (a' := ?_) (bq 7 3) rfl rfl (by kernel_rfl) (fun _ _ _ h => h) (Or.inl ⟨by rfl, ?_⟩) hHeld ?_ ?_
  rotate_left
  ·rintro w' ⟨s0_, s1_, s2_, s3_, s4_, s5_, s6_, s7_, s8_⟩
   go_simp
   with_reducible rfl
  rotate_left
  ·simp only [Act.put, pA, pB, pC]
   rfl
  refine pure_ (i := 2) (N := some 9) (v := ?_) (a' := ?_) (bq 7 7) rfl rfl (by kernel_rfl) (fun _ _ _ h => h) (Or.inl ⟨by rfl, ?_⟩) ?_ ?_
  rotate_left
  ·intro w'
   go_simp
   with_reducible rfl
  rotate_left
  ·simp only [Act.put, pA, pB, pC]
   rfl
  refine pure_ (i := 3) (N := some 10) (v := undef) (a' := ?_) (bq 7 15) rfl rfl (by kernel_rfl) (fun _ _ _ h => h) (Or.inr ⟨by rfl, rfl⟩) ?_ ?_
  rotate_left
  ·simp only [Act.put, pA, pB, pC]
   rfl
  refine pure_ (i := 4) (N := some 11) (v := undef) (a' := ?_) (bq 7 31) rfl rfl (by kernel_rfl) (fun _ _ _ h => h) (Or.inr ⟨by rfl, rfl⟩) ?_ ?_
  rotate_left
  ·simp only [Act.put, pA, pB, pC]
   rfl
  refine pure_ (i := 5) (N := some 12) (v := undef) (a' := ?_) (bq 7 63) rfl rfl (by kernel_rfl) (fun _ _ _ h => h) (Or.inr ⟨by rfl, rfl⟩) ?_ ?_
  rotate_left
  ·simp only [Act.put, pA, pB, pC]
   rfl
  refine pure_ (i := 6) (N := some 13) (v := ?_) (a' := ?_) (bq 7 127) rfl rfl (by kernel_rfl) (fun _ _ _ h => h) (Or.inl ⟨by rfl, ?_⟩) ?_ ?_
  rotate_left
  ·intro w'
   go_simp
   with_reducible rfl
  rotate_left
  ·simp only [Act.put, pA, pB, pC]
   rfl
  refine done_ (by kernel_rfl) ?_
  generalize W1.drew = W2 at BX BR HBd hHeld ⊢
  clear hHeld
  obtain ⟨⟨q0, q1, q2, q3, q4, q5, q6, q7, q8⟩, _⟩ := BX.c9
  obtain ⟨⟨z0, z1, z2, z3⟩, ⟨k0, k1, k2, k3⟩⟩ := BR.c4
  go_wp2_with fail
  have B2 := ((((BR.set_ 0 (.int .i64 0)).set_ 1 (.bool false)).set_ 2 (.int .u64 0)).set_ 3 (.int .i64 0))
  have HB2 := ((((HBd.setCell (p := ⟨w.heap.size + 1, 0, none⟩) (by show w.heap.size ≤ w.heap.size + 1; omega) (.int .i64 0)).setCell (p := ⟨w.heap.size + 1, 1, none⟩) (by show w.heap.size ≤ w.heap.size + 1; omega) (.bool false)).setCell (p := ⟨w.heap.size + 1, 2, none⟩) (by show w.heap.size ≤ w.heap.size + 1; omega) (.int .u64 0)).setCell (p := ⟨w.heap.size + 1, 3, none⟩) (by show w.heap.size ≤ w.heap.size + 1; omega) (.int .i64 0))
  exact bodyPost_ret (results_cell_row rfl _ _ (w.heap.size + 1) 37 _ (0, 0) _ rfl B2 Tryz.underlying37 rfl (by kernel_rfl)) rfl ⟨rfl, HB2⟩
end Go.Proofs.YtagojbgmgkkdpaaGreat.Wk

/- Walks: the reference's Width, Split, Inflate. -/
namespace Go.Proofs.YtagojbgmgkkdpaaGreat.Wk
open Go.RowKit Go.Proofs.Pl Go.Proofs.YtagojbgmgkkdpaaGreatW.PrintLast
set_option linter.unusedSimpArgs false
set_option linter.unusedVariables false

theorem fair_emp {x : Iv} (h : (fairI x).emp = true) : fairI x = noneI := by
 rcases fairI_cases x with ⟨hf, he⟩ | ⟨_, he⟩
 ·rw [he, hf.2] at h; cases h
 ·exact he
theorem width_emp : subN zero zero true = zero := by
 rw [subN_zero zero zero_wf true]
 decide +kernel
set_option maxRecDepth 100000 in
set_option maxHeartbeats 8000000 in
theorem r8width_calls (a0 : Bool) (a1 : Int) (a2 : Bool) (a3 a4 a5 : Int) (a6 : Bool) (a7 a8 : Int) (w : World) (wa : WfIv ⟨a0, ⟨a1, a2, a3, a4⟩, ⟨a5, a6, a7, a8⟩⟩) (ha : FewE ⟨a1, a2, a3, a4⟩ 1500) (hb : FewE ⟨a5, a6, a7, a8⟩ 1500) :
  Calls Tryz.prog 28 #[.agg #[.bool a0, .int .i64 a1, .bool a2, .int .u64 a3, .int .i64 a4, .int .i64 a5, .bool a6, .int .u64 a7, .int .i64 a8]] w fun e w' => e = .returned (.agg #[.int .i64 (widthI ⟨a0, ⟨a1, a2, a3, a4⟩, ⟨a5, a6, a7, a8⟩⟩).k, .bool (widthI ⟨a0, ⟨a1, a2, a3, a4⟩, ⟨a5, a6, a7, a8⟩⟩).n, .int .u64 (widthI ⟨a0, ⟨a1, a2, a3, a4⟩, ⟨a5, a6, a7, a8⟩⟩).m, .int .i64 (widthI ⟨a0, ⟨a1, a2, a3, a4⟩, ⟨a5, a6, a7, a8⟩⟩).e]) ∧ Below w.heap.size w w' := by
 have HF := (fun w => r8fair_calls a0 a1 a2 a3 a4 a5 a6 a7 a8 w)
 obtain ⟨fl, fh⟩ := few_fairI (x := ⟨a0, ⟨a1, a2, a3, a4⟩, ⟨a5, a6, a7, a8⟩⟩) (by decide) ha hb
 have wf := fairI_wf wa
 unfold widthI
 have he := fair_emp (x := ⟨a0, ⟨a1, a2, a3, a4⟩, ⟨a5, a6, a7, a8⟩⟩)
 clear ha hb wa
 generalize fairI ⟨a0, ⟨a1, a2, a3, a4⟩, ⟨a5, a6, a7, a8⟩⟩ = c at HF fl fh wf he ⊢
 obtain ⟨c0, ⟨c1, c2, c3, c4⟩, ⟨c5, c6, c7, c8⟩⟩ := c
 obtain ⟨wl, wh⟩ := wf
 dsimp only at HF wl wh fl fh he ⊢
 have BR : Blk _ (w.heap.size + 1) 37 #[.int .i64 0, .bool false, .int .u64 0, .int .i64 0] := Blk.new1 w (.cells #[.bool a0, .int .i64 a1, .bool a2, .int .u64 a3, .int .i64 a4, .int .i64 a5, .bool a6, .int .u64 a7, .int .i64 a8] 39) _ _
 have HBd := (bl_alloc (bl_alloc (Below.refl w.heap.size w) (.cells #[.bool a0, .int .i64 a1, .bool a2, .int .u64 a3, .int .i64 a4, .int .i64 a5, .bool a6, .int .u64 a7, .int .i64 a8] 39)) (.cells #[.int .i64 0, .bool false, .int .u64 0, .int .i64 0] 37))
 cases c0
 ·have HS := Lib.hid (fun w => r6sub_calls c5 c6 c7 c8 c1 c2 c3 c4 true w wh wl (fh.more (by decide)) (fl.more (by decide)))
  generalize subN _ _ true = r at HS ⊢
  obtain ⟨r0, r1, r2, r3⟩ := r
  clear wl wh fl fh he
  replace HF := Lib.hid HF
  go_enter Tryz.func28, Tryz.ntmps28
  go_wp2_with (first
   | (go_at_call 46; (with_reducible refine (HF.out _).mono ?_); rintro e1 w1 ⟨rfl, hb⟩; replace BR := (BR.call hb).alloc (.cells #[.bool false, .int .i64 c1, .bool c2, .int .u64 c3, .int .i64 c4, .int .i64 c5, .bool c6, .int .u64 c7, .int .i64 c8] 39); replace HBd := bl_alloc (bl_trans HBd hb) (.cells #[.bool false, .int .i64 c1, .bool c2, .int .u64 c3, .int .i64 c4, .int .i64 c5, .bool c6, .int .u64 c7, .int .i64 c8] 39); have BX : Blk (w1.alloc (.cells #[.bool false, .int .i64 c1, .bool c2, .int .u64 c3, .int .i64 c4, .int .i64 c5, .bool c6, .int .u64 c7, .int .i64 c8] 39)) w1.heap.size 39 #[.bool false, .int .i64 c1, .bool c2, .int .u64 c3, .int .i64 c4, .int .i64 c5, .bool c6, .int .u64 c7, .int .i64 c8] := Blk.new w1 _ _; clear hb)
   | (go_at_call 56; (with_reducible refine (HS.out _).mono ?_); rintro e3 w3 ⟨rfl, hb⟩; replace BR := BR.call hb; replace HBd := bl_trans HBd hb; obtain ⟨⟨z0, z1, z2, z3⟩, ⟨k0, k1, k2, k3⟩⟩ := BR.c4; clear hb))
  have B2 := ((((BR.set_ 0 (.int .i64 r0)).set_ 1 (.bool r1)).set_ 2 (.int .u64 r2)).set_ 3 (.int .i64 r3))
  have HB2 := ((((HBd.setCell (p := ⟨w.heap.size + 1, 0, none⟩) (by show w.heap.size ≤ w.heap.size + 1; omega) (.int .i64 r0)).setCell (p := ⟨w.heap.size + 1, 1, none⟩) (by show w.heap.size ≤ w.heap.size + 1; omega) (.bool r1)).setCell (p := ⟨w.heap.size + 1, 2, none⟩) (by show w.heap.size ≤ w.heap.size + 1; omega) (.int .u64 r2)).setCell (p := ⟨w.heap.size + 1, 3, none⟩) (by show w.heap.size ≤ w.heap.size + 1; omega) (.int .i64 r3))
  exact bodyPost_ret (results_cell_row rfl _ _ (w.heap.size + 1) 37 _ (0, 0) _ rfl B2 Tryz.underlying37 rfl (by kernel_rfl)) rfl ⟨rfl, HB2⟩
 ·have hc := he rfl
  unfold noneI at hc
  injection hc with _ h1 h2
  unfold zero at h1 h2
  injection h1 with g1 g2 g3 g4
  injection h2 with g5 g6 g7 g8
  subst g1 g2 g3 g4 g5 g6 g7 g8
  have hr : subN (⟨0, false, 0, 0⟩ : Num) ⟨0, false, 0, 0⟩ true = ⟨0, false, 0, 0⟩ := width_emp
  rw [hr]
  clear hr he wl wh fl fh
  replace HF := Lib.hid HF
  go_enter Tryz.func28, Tryz.ntmps28
  go_wp2_with (go_at_call 46; (with_reducible refine (HF.out _).mono ?_); rintro e1 w1 ⟨rfl, hb⟩; replace BR := (BR.call hb).alloc (.cells #[.bool true, .int .i64 0, .bool false, .int .u64 0, .int .i64 0, .int .i64 0, .bool false, .int .u64 0, .int .i64 0] 39); replace HBd := bl_alloc (bl_trans HBd hb) (.cells #[.bool true, .int .i64 0, .bool false, .int .u64 0, .int .i64 0, .int .i64 0, .bool false, .int .u64 0, .int .i64 0] 39); have BX : Blk (w1.alloc (.cells #[.bool true, .int .i64 0, .bool false, .int .u64 0, .int .i64 0, .int .i64 0, .bool false, .int .u64 0, .int .i64 0] 39)) w1.heap.size 39 #[.bool true, .int .i64 0, .bool false, .int .u64 0, .int .i64 0, .int .i64 0, .bool false, .int .u64 0, .int .i64 0] := Blk.new w1 _ _; clear hb; obtain ⟨⟨z0, z1, z2, z3⟩, ⟨k0, k1, k2, k3⟩⟩ := BR.c4)
  have B2 := ((((BR.set_ 0 (.int .i64 0)).set_ 1 (.bool false)).set_ 2 (.int .u64 0)).set_ 3 (.int .i64 0))
  have HB2 := ((((HBd.setCell (p := ⟨w.heap.size + 1, 0, none⟩) (by show w.heap.size ≤ w.heap.size + 1; omega) (.int .i64 0)).setCell (p := ⟨w.heap.size + 1, 1, none⟩) (by show w.heap.size ≤ w.heap.size + 1; omega) (.bool false)).setCell (p := ⟨w.heap.size + 1, 2, none⟩) (by show w.heap.size ≤ w.heap.size + 1; omega) (.int .u64 0)).setCell (p := ⟨w.heap.size + 1, 3, none⟩) (by show w.heap.size ≤ w.heap.size + 1; omega) (.int .i64 0))
  exact bodyPost_ret (results_cell_row rfl _ _ (w.heap.size + 1) 37 _ (0, 0) _ rfl B2 Tryz.underlying37 rfl (by kernel_rfl)) rfl ⟨rfl, HB2⟩
set_option maxRecDepth 100000 in
set_option maxHeartbeats 8000000 in
theorem r8split_calls (a0 : Bool) (a1 : Int) (a2 : Bool) (a3 a4 a5 : Int) (a6 : Bool) (a7 a8 : Int) (w : World) (wa : WfIv ⟨a0, ⟨a1, a2, a3, a4⟩, ⟨a5, a6, a7, a8⟩⟩) (ha : FewE ⟨a1, a2, a3, a4⟩ 1500) (hb : FewE ⟨a5, a6, a7, a8⟩ 1500) :
  Calls Tryz.prog 22 #[.agg #[.bool a0, .int .i64 a1, .bool a2, .int .u64 a3, .int .i64 a4, .int .i64 a5, .bool a6, .int .u64 a7, .int .i64 a8]] w fun e w' => e = .returned (.tuple #[.agg #[.bool (splitA ⟨a0, ⟨a1, a2, a3, a4⟩, ⟨a5, a6, a7, a8⟩⟩).emp, .int .i64 ((splitA ⟨a0, ⟨a1, a2, a3, a4⟩, ⟨a5, a6, a7, a8⟩⟩).lo).k, .bool ((splitA ⟨a0, ⟨a1, a2, a3, a4⟩, ⟨a5, a6, a7, a8⟩⟩).lo).n, .int .u64 ((splitA ⟨a0, ⟨a1, a2, a3, a4⟩, ⟨a5, a6, a7, a8⟩⟩).lo).m, .int .i64 ((splitA ⟨a0, ⟨a1, a2, a3, a4⟩, ⟨a5, a6, a7, a8⟩⟩).lo).e, .int .i64 ((splitA ⟨a0, ⟨a1, a2, a3, a4⟩, ⟨a5, a6, a7, a8⟩⟩).hi).k, .bool ((splitA ⟨a0, ⟨a1, a2, a3, a4⟩, ⟨a5, a6, a7, a8⟩⟩).hi).n, .int .u64 ((splitA ⟨a0, ⟨a1, a2, a3, a4⟩, ⟨a5, a6, a7, a8⟩⟩).hi).m, .int .i64 ((splitA ⟨a0, ⟨a1, a2, a3, a4⟩, ⟨a5, a6, a7, a8⟩⟩).hi).e], .agg #[.bool (splitB ⟨a0, ⟨a1, a2, a3, a4⟩, ⟨a5, a6, a7, a8⟩⟩).emp, .int .i64 ((splitB ⟨a0, ⟨a1, a2, a3, a4⟩, ⟨a5, a6, a7, a8⟩⟩).lo).k, .bool ((splitB ⟨a0, ⟨a1, a2, a3, a4⟩, ⟨a5, a6, a7, a8⟩⟩).lo).n, .int .u64 ((splitB ⟨a0, ⟨a1, a2, a3, a4⟩, ⟨a5, a6, a7, a8⟩⟩).lo).m, .int .i64 ((splitB ⟨a0, ⟨a1, a2, a3, a4⟩, ⟨a5, a6, a7, a8⟩⟩).lo).e, .int .i64 ((splitB ⟨a0, ⟨a1, a2, a3, a4⟩, ⟨a5, a6, a7, a8⟩⟩).hi).k, .bool ((splitB ⟨a0, ⟨a1, a2, a3, a4⟩, ⟨a5, a6, a7, a8⟩⟩).hi).n, .int .u64 ((splitB ⟨a0, ⟨a1, a2, a3, a4⟩, ⟨a5, a6, a7, a8⟩⟩).hi).m, .int .i64 ((splitB ⟨a0, ⟨a1, a2, a3, a4⟩, ⟨a5, a6, a7, a8⟩⟩).hi).e]]) ∧ Below w.heap.size w w' := by
 have HF := (fun w => r8fair_calls a0 a1 a2 a3 a4 a5 a6 a7 a8 w)
 obtain ⟨fl, fh⟩ := few_fairI (x := ⟨a0, ⟨a1, a2, a3, a4⟩, ⟨a5, a6, a7, a8⟩⟩) (by decide) ha hb
 have wf := fairI_wf wa
 unfold splitA splitB
 have he := fair_emp (x := ⟨a0, ⟨a1, a2, a3, a4⟩, ⟨a5, a6, a7, a8⟩⟩)
 clear ha hb wa
 generalize fairI ⟨a0, ⟨a1, a2, a3, a4⟩, ⟨a5, a6, a7, a8⟩⟩ = c at HF fl fh wf he ⊢
 obtain ⟨c0, ⟨c1, c2, c3, c4⟩, ⟨c5, c6, c7, c8⟩⟩ := c
 dsimp only at HF fl fh he ⊢
 have BL : Blk _ (w.heap.size + 1) 39 #[.bool false, .int .i64 0, .bool false, .int .u64 0, .int .i64 0, .int .i64 0, .bool false, .int .u64 0, .int .i64 0] := (Blk.new1 w (.cells #[.bool a0, .int .i64 a1, .bool a2, .int .u64 a3, .int .i64 a4, .int .i64 a5, .bool a6, .int .u64 a7, .int .i64 a8] 39) _ _).alloc (.cells #[.bool false, .int .i64 0, .bool false, .int .u64 0, .int .i64 0, .int .i64 0, .bool false, .int .u64 0, .int .i64 0] 39)
 have BH : Blk _ (w.heap.size + 1 + 1) 39 #[.bool false, .int .i64 0, .bool false, .int .u64 0, .int .i64 0, .int .i64 0, .bool false, .int .u64 0, .int .i64 0] := Blk.new2 w (.cells #[.bool a0, .int .i64 a1, .bool a2, .int .u64 a3, .int .i64 a4, .int .i64 a5, .bool a6, .int .u64 a7, .int .i64 a8] 39) (.cells #[.bool false, .int .i64 0, .bool false, .int .u64 0, .int .i64 0, .int .i64 0, .bool false, .int .u64 0, .int .i64 0] 39) _ _
 have HBd := (bl_alloc (bl_alloc (bl_alloc (Below.refl w.heap.size w) (.cells #[.bool a0, .int .i64 a1, .bool a2, .int .u64 a3, .int .i64 a4, .int .i64 a5, .bool a6, .int .u64 a7, .int .i64 a8] 39)) (.cells #[.bool false, .int .i64 0, .bool false, .int .u64 0, .int .i64 0, .int .i64 0, .bool false, .int .u64 0, .int .i64 0] 39)) (.cells #[.bool false, .int .i64 0, .bool false, .int .u64 0, .int .i64 0, .int .i64 0, .bool false, .int .u64 0, .int .i64 0] 39))
 cases c0
 ·have HM := (fun W => r8mid_calls false c1 c2 c3 c4 c5 c6 c7 c8 W wf fl fh)
  generalize midI _ = m at HM ⊢
  obtain ⟨m0, m1, m2, m3⟩ := m
  have HMA := Lib.hid (fun W => r8make_calls c1 c2 c3 c4 m0 m1 m2 m3 W)
  have HMB := Lib.hid (fun W => r8make_calls m0 m1 m2 m3 c5 c6 c7 c8 W)
  generalize makeI ⟨c1, c2, c3, c4⟩ ⟨m0, m1, m2, m3⟩ = p at HMA ⊢
  generalize makeI ⟨m0, m1, m2, m3⟩ ⟨c5, c6, c7, c8⟩ = s at HMB ⊢
  obtain ⟨p0, ⟨p1, p2, p3, p4⟩, ⟨p5, p6, p7, p8⟩⟩ := p
  obtain ⟨s0, ⟨s1, s2, s3, s4⟩, ⟨s5, s6, s7, s8⟩⟩ := s
  simp only [Bool.false_eq_true, if_false]
  dsimp only at HM HMA HMB
  clear wf fl fh he
  replace HM := Lib.hid HM
  replace HF := Lib.hid HF
  go_enter Tryz.func22, Tryz.ntmps22
  go_wp2_with (first
   | (go_at_call 46; (with_reducible refine (HF.out _).mono ?_); rintro e1 w1 ⟨rfl, hb⟩; replace BL := (BL.call hb).alloc (.cells #[.bool false, .int .i64 c1, .bool c2, .int .u64 c3, .int .i64 c4, .int .i64 c5, .bool c6, .int .u64 c7, .int .i64 c8] 39); replace BH := (BH.call hb).alloc (.cells #[.bool false, .int .i64 c1, .bool c2, .int .u64 c3, .int .i64 c4, .int .i64 c5, .bool c6, .int .u64 c7, .int .i64 c8] 39); replace HBd := bl_alloc (bl_trans HBd hb) (.cells #[.bool false, .int .i64 c1, .bool c2, .int .u64 c3, .int .i64 c4, .int .i64 c5, .bool c6, .int .u64 c7, .int .i64 c8] 39); have BX : Blk (w1.alloc (.cells #[.bool false, .int .i64 c1, .bool c2, .int .u64 c3, .int .i64 c4, .int .i64 c5, .bool c6, .int .u64 c7, .int .i64 c8] 39)) w1.heap.size 39 #[.bool false, .int .i64 c1, .bool c2, .int .u64 c3, .int .i64 c4, .int .i64 c5, .bool c6, .int .u64 c7, .int .i64 c8] := Blk.new w1 _ _; clear hb)
   | (go_at_call 48; (with_reducible refine (HM.out _).mono ?_); rintro e2 w2 ⟨rfl, hb⟩; have hb2 := bl_alloc hb (.cells #[.int .i64 m0, .bool m1, .int .u64 m2, .int .i64 m3] 37); replace BX := (BX.call hb).alloc (.cells #[.int .i64 m0, .bool m1, .int .u64 m2, .int .i64 m3] 37); replace BL := (BL.call hb).alloc (.cells #[.int .i64 m0, .bool m1, .int .u64 m2, .int .i64 m3] 37); replace BH := (BH.call hb).alloc (.cells #[.int .i64 m0, .bool m1, .int .u64 m2, .int .i64 m3] 37); replace HBd := bl_alloc (bl_trans HBd hb) (.cells #[.int .i64 m0, .bool m1, .int .u64 m2, .int .i64 m3] 37); have BM : Blk (w2.alloc (.cells #[.int .i64 m0, .bool m1, .int .u64 m2, .int .i64 m3] 37)) w2.heap.size 37 #[.int .i64 m0, .bool m1, .int .u64 m2, .int .i64 m3] := Blk.new w2 _ _; clear hb hb2))
  generalize w2.alloc (.cells #[.int .i64 m0, .bool m1, .int .u64 m2, .int .i64 m3] 37) = W3 at BX BL BH BM HBd ⊢
  generalize w1.heap.size = g at BX ⊢
  generalize w2.heap.size = gm at BM ⊢
  replace BX := BX.drew
  replace BL := BL.drew
  replace BH := BH.drew
  replace BM := BM.drew
  replace HBd := bl_drew HBd
  refine start_ (n := 10) (S := fun w' => w'.cell? ⟨g, 0, none⟩ = some (.bool false) ∧ w'.cell? ⟨g, 1, none⟩ = some (.int .i64 c1) ∧ w'.cell? ⟨g, 2, none⟩ = some (.bool c2) ∧ w'.cell? ⟨g, 3, none⟩ = some (.int .u64 c3) ∧ w'.cell? ⟨g, 4, none⟩ = some (.int .i64 c4) ∧ w'.cell? ⟨g, 5, none⟩ = some (.int .i64 c5) ∧ w'.cell? ⟨g, 6, none⟩ = some (.bool c6) ∧ w'.cell? ⟨g, 7, none⟩ = some (.int .u64 c7) ∧ w'.cell? ⟨g, 8, none⟩ = some (.int .i64 c8) ∧ w'.cell? ⟨gm, 0, none⟩ = some (.int .i64 m0) ∧ w'.cell? ⟨gm, 1, none⟩ = some (.bool m1) ∧ w'.cell? ⟨gm, 2, none⟩ = some (.int .u64 m2) ∧ w'.cell? ⟨gm, 3, none⟩ = some (.int .i64 m3)) (ds := [8,9]) (bq 10 0) (by kernel_rfl) rfl rfl ⟨BX.cell 0, BX.cell 1, BX.cell 2, BX.cell 3, BX.cell 4, BX.cell 5, BX.cell 6, BX.cell 7, BX.cell 8, BM.cell 0, BM.cell 1, BM.cell 2, BM.cell 3⟩ (fun hHeld => ?_)
  refine pure_ (i := 0) (N := some 14) (v := ?_) (a' := ?_) (bq 10 1) rfl rfl (by kernel_rfl) (fun _ _ _ h => h) (Or.inl ⟨by rfl, ?_⟩) ?_ ?_
  rotate_left
  ·intro w'
   go_simp
   with_reducible rfl
  rotate_left
  ·simp only [Act.put, pA, pB, pC]
   rfl
  refine take_ (i := 1) (N := some 15) (v := ?_) (a' := ?_) (bq 10 3) rfl rfl (by kernel_rfl) (fun _ _ _ h => h) (Or.inl ⟨by rfl, ?_⟩) hHeld ?_ ?_
  rotate_left
  ·rintro w' ⟨s0_, s1_, s2_, s3_, s4_, s5_, s6_, s7_, s8_, s9_, s10_, s11_, s12_⟩
   go_simp
   with_reducible rfl
  rotate_left
  ·simp only [Act.put, pA, pB, pC]
   rfl
  refine take_ (i := 2) (N := some 16) (v := ?_) (a' := ?_) (bq 10 7) rfl rfl (by kernel_rfl) (fun _ _ _ h => h) (Or.inl ⟨by rfl, ?_⟩) hHeld ?_ ?_
  rotate_left
  ·rintro w' ⟨s0_, s1_, s2_, s3_, s4_, s5_, s6_, s7_, s8_, s9_, s10_, s11_, s12_⟩
   go_simp
   with_reducible rfl
  rotate_left
  ·simp only [Act.put, pA, pB, pC]
   rfl
  refine take_ (i := 4) (N := some 18) (v := ?_) (a' := ?_) (bq 10 23) rfl rfl (by kernel_rfl) (fun _ _ _ h => h) (Or.inl ⟨by rfl, ?_⟩) hHeld ?_ ?_
  rotate_left
  ·rintro w' ⟨s0_, s1_, s2_, s3_, s4_, s5_, s6_, s7_, s8_, s9_, s10_, s11_, s12_⟩
   go_simp
   with_reducible rfl
  rotate_left
  ·simp only [Act.put, pA, pB, pC]
   rfl
  refine pure_ (i := 5) (N := some 19) (v := ?_) (a' := ?_) (bq 10 55) rfl rfl (by kernel_rfl) (fun _ _ _ h => h) (Or.inl ⟨by rfl, ?_⟩) ?_ ?_
  rotate_left
  ·intro w'
   go_simp
   with_reducible rfl
  rotate_left
  ·simp only [Act.put, pA, pB, pC]
   rfl
  refine take_ (i := 6) (N := some 20) (v := ?_) (a' := ?_) (bq 10 119) rfl rfl (by kernel_rfl) (fun _ _ _ h => h) (Or.inl ⟨by rfl, ?_⟩) hHeld ?_ ?_
  rotate_left
  ·rintro w' ⟨s0_, s1_, s2_, s3_, s4_, s5_, s6_, s7_, s8_, s9_, s10_, s11_, s12_⟩
   go_simp
   with_reducible rfl
  rotate_left
  ·simp only [Act.put, pA, pB, pC]
   rfl
  refine one_ (i := 3) (N := some 17) (bq 10 127) rfl rfl (by kernel_rfl) (by decide) (fun K hK => ?_)
  refine goes_ Tryz.func49 (by kernel_rfl) rfl #[.agg #[.int .i64 c1, .bool c2, .int .u64 c3, .int .i64 c4], .agg #[.int .i64 m0, .bool m1, .int .u64 m2, .int .i64 m3]] (by first | rfl | go_simp) rfl rfl (by simp only [List.map_toArray, List.map_cons, List.map_nil] <;> rfl) ?_
  with_reducible refine (HMA.out _).mono ?_
  rintro e w7 ⟨rfl, hb⟩
  refine ⟨_, rfl, ?_⟩
  replace BX := BX.call hb
  replace BL := BL.call hb
  replace BH := BH.call hb
  replace BM := BM.call hb
  replace HBd := bl_trans HBd hb
  refine hK.out _ _ ⟨BX.cell 0, BX.cell 1, BX.cell 2, BX.cell 3, BX.cell 4, BX.cell 5, BX.cell 6, BX.cell 7, BX.cell 8, BM.cell 0, BM.cell 1, BM.cell 2, BM.cell 3⟩ (fun hHeld => ?_)
  clear hK K hb
  refine norm_ (a' := ?_) ?_ ?_
  rotate_left
  ·show Act.put _ (some 17) _ = _
   simp only [Act.put, pA, pB, pC]
   rfl
  refine one_ (i := 7) (N := some 21) (bq 10 255) rfl rfl (by kernel_rfl) (by decide) (fun K hK => ?_)
  refine goes_ Tryz.func49 (by kernel_rfl) rfl #[.agg #[.int .i64 m0, .bool m1, .int .u64 m2, .int .i64 m3], .agg #[.int .i64 c5, .bool c6, .int .u64 c7, .int .i64 c8]] (by first | rfl | go_simp) rfl rfl (by simp only [List.map_toArray, List.map_cons, List.map_nil] <;> rfl) ?_
  with_reducible refine (HMB.out _).mono ?_
  rintro e w8 ⟨rfl, hb⟩
  refine ⟨_, rfl, ?_⟩
  replace BX := BX.call hb
  replace BL := BL.call hb
  replace BH := BH.call hb
  replace BM := BM.call hb
  replace HBd := bl_trans HBd hb
  refine hK.out _ _ ⟨BX.cell 0, BX.cell 1, BX.cell 2, BX.cell 3, BX.cell 4, BX.cell 5, BX.cell 6, BX.cell 7, BX.cell 8, BM.cell 0, BM.cell 1, BM.cell 2, BM.cell 3⟩ (fun hHeld => ?_)
  clear hK K hb
  refine norm_ (a' := ?_) ?_ ?_
  rotate_left
  ·show Act.put _ (some 21) _ = _
   simp only [Act.put, pA, pB, pC]
   rfl
  obtain ⟨⟨z0, z1, z2, z3, z4, z5, z6, z7, z8⟩, ⟨k0, k1, k2, k3, k4, k5, k6, k7, k8⟩⟩ := BL.c9
  obtain ⟨W9, hW9, L9, hK9, hL9, _⟩ := put9 BL (.bool p0) (.int .i64 p1) (.bool p2) (.int .u64 p3) (.int .i64 p4) (.int .i64 p5) (.bool p6) (.int .u64 p7) (.int .i64 p8)
  have H9 := hK9 _ _ _ (by omega) BH
  have HB9 := hL9 w HBd (by omega)
  refine last_ (i := 8) (N := none) (bq 10 511) rfl rfl (by kernel_rfl) (by decide) (fun K hK => ?_)
  refine skip_ (w1 := ?_) (by rfl) rfl ?_ ?_
  rotate_left
  ·go_simp
   rfl
  refine hK.out _ _ ?_
  clear hK K
  try rw [hW9]
  clear z0 z1 z2 z3 z4 z5 z6 z7 z8 k0 k1 k2 k3 k4 k5 k6 k7 k8 hW9 hK9 hL9
  obtain ⟨⟨z0, z1, z2, z3, z4, z5, z6, z7, z8⟩, ⟨k0, k1, k2, k3, k4, k5, k6, k7, k8⟩⟩ := H9.c9
  obtain ⟨W10, hW10, H10, hK10, hL10, _⟩ := put9 H9 (.bool s0) (.int .i64 s1) (.bool s2) (.int .u64 s3) (.int .i64 s4) (.int .i64 s5) (.bool s6) (.int .u64 s7) (.int .i64 s8)
  have L10 := hK10 _ _ _ (by omega) L9
  have HB10 := hL10 w HB9 (by omega)
  refine last_ (i := 9) (N := none) (bq 10 1023) rfl rfl (by kernel_rfl) (by decide) (fun K hK => ?_)
  refine skip_ (w1 := ?_) (by rfl) rfl ?_ ?_
  rotate_left
  ·go_simp
   rfl
  refine hK.out _ _ ?_
  clear hK K
  refine done_ (by kernel_rfl) ?_
  clear hHeld BX BM HBd BH BL L9 H9 HB9
  clear z0 z1 z2 z3 z4 z5 z6 z7 z8 k0 k1 k2 k3 k4 k5 k6 k7 k8 hK10 hL10
  go_wp2
  obtain ⟨⟨l0, l1, l2, l3, l4, l5, l6, l7, l8⟩, _⟩ := L10.c9
  obtain ⟨⟨h0, h1, h2, h3, h4, h5, h6, h7, h8⟩, _⟩ := H10.c9
  exact bodyPost_ret (v := .tuple #[.agg #[.bool p0, .int .i64 p1, .bool p2, .int .u64 p3, .int .i64 p4, .int .i64 p5, .bool p6, .int .u64 p7, .int .i64 p8], .agg #[.bool s0, .int .i64 s1, .bool s2, .int .u64 s3, .int .i64 s4, .int .i64 s5, .bool s6, .int .u64 s7, .int .i64 s8]]) (by simp [results, Tryz.results22, go_sem, l0, l1, l2, l3, l4, l5, l6, l7, l8, h0, h1, h2, h3, h4, h5, h6, h7, h8]) rfl ⟨rfl, HB10⟩
 ·have hc := he rfl
  unfold noneI at hc
  injection hc with _ h1 h2
  unfold zero at h1 h2
  injection h1 with g1 g2 g3 g4
  injection h2 with g5 g6 g7 g8
  subst g1 g2 g3 g4 g5 g6 g7 g8
  simp only [if_true]
  clear he wf fl fh
  replace HF := Lib.hid HF
  go_enter Tryz.func22, Tryz.ntmps22
  go_wp2_with (first
   | (go_at_call 46; (with_reducible refine (HF.out _).mono ?_); rintro e1 w1 ⟨rfl, hb⟩; replace BL := (BL.call hb).alloc (.cells #[.bool true, .int .i64 0, .bool false, .int .u64 0, .int .i64 0, .int .i64 0, .bool false, .int .u64 0, .int .i64 0] 39); replace BH := (BH.call hb).alloc (.cells #[.bool true, .int .i64 0, .bool false, .int .u64 0, .int .i64 0, .int .i64 0, .bool false, .int .u64 0, .int .i64 0] 39); replace HBd := bl_alloc (bl_trans HBd hb) (.cells #[.bool true, .int .i64 0, .bool false, .int .u64 0, .int .i64 0, .int .i64 0, .bool false, .int .u64 0, .int .i64 0] 39); clear hb)
   | (go_at_call 47; (with_reducible refine (r8none_lit _).mono ?_); rintro e2 w2 ⟨rfl, hb⟩; replace BL := BL.call hb; replace BH := BH.call hb; replace HBd := bl_trans HBd hb; clear hb)
   | (refine wpList_stG rfl 39 (.tmp 2) (.tmp 10) rfl (w.heap.size + 1) _ #[.bool true, .int .i64 0, .bool false, .int .u64 0, .int .i64 0, .int .i64 0, .bool false, .int .u64 0, .int .i64 0] BL rfl rfl (by kernel_rfl) rfl (by simp [Value.oneCell']) ?_; intro W9 L9 P9; have H9 := P9.blk BH (by omega); have HB9 := P9.bel HBd (by omega))
   | (refine wpList_stG rfl 39 (.tmp 3) (.tmp 11) rfl (w.heap.size + 1 + 1) _ #[.bool true, .int .i64 0, .bool false, .int .u64 0, .int .i64 0, .int .i64 0, .bool false, .int .u64 0, .int .i64 0] H9 rfl rfl (by kernel_rfl) rfl (by simp [Value.oneCell']) ?_; intro W10 H10 P10; have L10 := P10.blk L9 (by omega); have HB10 := P10.bel HB9 (by omega)))
  clear HBd BL BH L9 H9 HB9
  obtain ⟨⟨l0, l1, l2, l3, l4, l5, l6, l7, l8⟩, _⟩ := L10.c9
  obtain ⟨⟨h0, h1, h2, h3, h4, h5, h6, h7, h8⟩, _⟩ := H10.c9
  exact bodyPost_ret (v := .tuple #[.agg #[.bool true, .int .i64 0, .bool false, .int .u64 0, .int .i64 0, .int .i64 0, .bool false, .int .u64 0, .int .i64 0], .agg #[.bool true, .int .i64 0, .bool false, .int .u64 0, .int .i64 0, .int .i64 0, .bool false, .int .u64 0, .int .i64 0]]) (by simp [results, Tryz.results22, go_sem, l0, l1, l2, l3, l4, l5, l6, l7, l8, h0, h1, h2, h3, h4, h5, h6, h7, h8]) rfl ⟨rfl, HB10⟩
end Go.Proofs.YtagojbgmgkkdpaaGreat.Wk
