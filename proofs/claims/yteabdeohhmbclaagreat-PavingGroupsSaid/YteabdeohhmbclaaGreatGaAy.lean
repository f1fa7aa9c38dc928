/- Walk: the iterator of tube.gates. -/
import Derived.Test.YteabdeohhmbclaaGreatGaDy
namespace Go.Proofs.YteabdeohhmbclaaGreat.Wk
open Go.RowKit Go.Proofs.Pl Go.Proofs.YteabdeohhmbclaaGreatW.PrintLast
set_option linter.unusedSimpArgs false
set_option linter.unusedVariables false

set_option maxRecDepth 100000 in
set_option maxHeartbeats 4000000 in
theorem gates1_in (m : Nat) (hm : 1 ≤ m) (l Bt n₀ n₁ n c : Nat) (A : Option Addr) (xs : List Slc) (s0 : Int) (s1 : Bool) (s2 s3 : Int) (i0 : Bool) (i1 : Int) (i2 : Bool) (i3 i4 i5 : Int) (i6 : Bool) (i7 i8 : Int) (hn : n ≤ 64) (J Jx : List (Nat × Num × Iv) → World → Prop) (W : World) (hJ : StayT W.heap.size boxTs J)
    (hY : ∀ pre x W, J pre W → (∃ k, k ≤ n + 1 ∧ pre ++ [x] = gatesL ⟨s0, s1, s2, s3⟩ ⟨i0, ⟨i1, i2, i3, i4⟩, ⟨i5, i6, i7, i8⟩⟩ xs k) → YieldAt Fence.wide (m - 1) Tryz.prog l (encG x) W fun e W' =>
      (e = .returned (.b true) ∧ J (pre ++ [x]) W' ∧ KpG n₀ n₁ Bt W W') ∨ (e = .returned (.b false) ∧ Jx (pre ++ [x]) W'))
    (hBt : Blk W Bt 37 #[.i s0, .b s1, .u s2, .i s3, .b i0, .i i1, .b i2, .u i3, .i i4, .i i5, .b i6, .u i7, .i i8, .slice A n c]) (hn₀ : n₀ ≤ n₁) (hn₁ : n₁ ≤ W.heap.size) (hs : SlT W n₀ A n xs) (h0 : J [] W) :
    CallsIn Fence.wide m Tryz.prog 102 #[.func (.yield l) #[] #[], .pointer (some ⟨Bt, 0, none⟩)] W fun e W' => (∃ v, e = .returned v) ∧
      ((∃ zs, zs = gatesL ⟨s0, s1, s2, s3⟩ ⟨i0, ⟨i1, i2, i3, i4⟩, ⟨i5, i6, i7, i8⟩⟩ xs (n + 1) ∧ J zs W') ∨ (∃ pre, (∃ k, k ≤ n + 1 ∧ pre = gatesL ⟨s0, s1, s2, s3⟩ ⟨i0, ⟨i1, i2, i3, i4⟩, ⟨i5, i6, i7, i8⟩⟩ xs k) ∧ Jx pre W')) := by
  refine callsIn_of_wp Tryz.func102 rfl trivial ?_ rfl
  simp only [Tryz.ntmps102, List.size_toArray, List.length_cons, List.length_nil, Nat.reduceAdd, Nat.reduceSub, Array.replicate_succ, Array.replicate_zero, List.push_toArray, List.append_toArray, List.nil_append, List.cons_append]
  obtain ⟨t0, t1, t2, t3, t4, t5, t6, t7, t8, t9, t10, t11, t12, t13⟩ := (⟨hBt.cell 0, hBt.cell 1, hBt.cell 2, hBt.cell 3, hBt.cell 4, hBt.cell 5, hBt.cell 6, hBt.cell 7, hBt.cell 8, hBt.cell 9, hBt.cell 10, hBt.cell 11, hBt.cell 12, hBt.cell 13⟩ : W.cell? ⟨Bt, 0, none⟩ = some (.i s0) ∧ W.cell? ⟨Bt, 1, none⟩ = some (.b s1) ∧ W.cell? ⟨Bt, 2, none⟩ = some (.u s2) ∧ W.cell? ⟨Bt, 3, none⟩ = some (.i s3) ∧ W.cell? ⟨Bt, 4, none⟩ = some (.b i0) ∧ W.cell? ⟨Bt, 5, none⟩ = some (.i i1) ∧ W.cell? ⟨Bt, 6, none⟩ = some (.b i2) ∧ W.cell? ⟨Bt, 7, none⟩ = some (.u i3) ∧ W.cell? ⟨Bt, 8, none⟩ = some (.i i4) ∧ W.cell? ⟨Bt, 9, none⟩ = some (.i i5) ∧ W.cell? ⟨Bt, 10, none⟩ = some (.b i6) ∧ W.cell? ⟨Bt, 11, none⟩ = some (.u i7) ∧ W.cell? ⟨Bt, 12, none⟩ = some (.i i8) ∧ W.cell? ⟨Bt, 13, none⟩ = some (.slice A n c))
  have hlt := hBt.lt
  gi_wp2
  have hJ1 := hJ [] W _ none h0 (World.grownBy_alloc W (.cells #[.i s0, .b s1, .u s2, .i s3, .b i0, .i i1, .b i2, .u i3, .i i4, .i i5, .b i6, .u i7, .i i8] 122) none) (fun r e => by cases e)
  have BG : Blk (W.alloc (.cells #[.i s0, .b s1, .u s2, .i s3, .b i0, .i i1, .b i2, .u i3, .i i4, .i i5, .b i6, .u i7, .i i8] 122)) W.heap.size 122 #[.i s0, .b s1, .u s2, .i s3, .b i0, .i i1, .b i2, .u i3, .i i4, .i i5, .b i6, .u i7, .i i8] := Blk.new W _ _
  have BT := hBt.alloc (.cells #[.i s0, .b s1, .u s2, .i s3, .b i0, .i i1, .b i2, .u i3, .i i4, .i i5, .b i6, .u i7, .i i8] 122)
  have HB0 := (Below.refl n₀ W).alloc (Nat.le_trans hn₀ hn₁) (.cells #[.i s0, .b s1, .u s2, .i s3, .b i0, .i i1, .b i2, .u i3, .i i4, .i i5, .b i6, .u i7, .i i8] 122)
  generalize W.alloc (.cells #[.i s0, .b s1, .u s2, .i s3, .b i0, .i i1, .b i2, .u i3, .i i4, .i i5, .b i6, .u i7, .i i8] 122) = W1 at hJ1 BG BT HB0 ⊢
  clear t0 t1 t2 t3 t4 t5 t6 t7 t8 t9 t10 t11 t12 t13 h0 hBt
  gi_loopw [4, 5, 15] (fun _ _ iv wr => ∃ k : Nat, k ≤ n + 1 ∧ iv = .i k ∧ J (gatesL ⟨s0, s1, s2, s3⟩ ⟨i0, ⟨i1, i2, i3, i4⟩, ⟨i5, i6, i7, i8⟩⟩ xs k) wr ∧ Below n₀ W wr ∧ Blk wr Bt 37 #[.i s0, .b s1, .u s2, .i s3, .b i0, .i i1, .b i2, .u i3, .i i4, .i i5, .b i6, .u i7, .i i8, .slice A n c] ∧ GBox wr W.heap.size k ⟨s0, s1, s2, s3⟩ ⟨i0, ⟨i1, i2, i3, i4⟩, ⟨i5, i6, i7, i8⟩⟩)
    (fun _ _ iv _ => n + 1 - (intOf iv).toNat)
  case atStart => exact ⟨0, Nat.zero_le _, rfl, hJ1, HB0, BT, ⟨s0, s1, s2, s3⟩, ⟨i0, ⟨i1, i2, i3, i4⟩, ⟨i5, i6, i7, i8⟩⟩, BG, fun _ => ⟨rfl, rfl⟩⟩
  case round =>
    obtain ⟨k, hk, rfl, hJs, hnx, BT, u, v, BG, hst⟩ := hrel
    have r13 := BT.cell 13
    simp only [List.getElem?_toArray, List.getElem?_cons_zero, List.getElem?_cons_succ] at r13
    by_cases hend : k = n + 1
    · subst hend
      have HJ := Lib.hid hJs
      clear hJs hst hs
      gi_wp2
      go_end0
      exact ⟨⟨_, rfl⟩, .inl ⟨_, rfl, HJ.out⟩⟩
    · have hkn : k < n + 1 := by omega
      have hsl := hs.1
      rcases Nat.eq_zero_or_pos k with hk0 | hk0
      · subst hk0
        obtain ⟨rfl, rfl⟩ := hst rfl
        rcases Nat.eq_zero_or_pos n with hn0 | hn0
        · subst hn0
          have hG : gIv ⟨i0, ⟨i1, i2, i3, i4⟩, ⟨i5, i6, i7, i8⟩⟩ xs 0 = ⟨i0, ⟨i1, i2, i3, i4⟩, ⟨i5, i6, i7, i8⟩⟩ := by unfold gIv gIv0; rw [if_neg (by omega), if_pos rfl]
          have hN : gNum ⟨s0, s1, s2, s3⟩ xs 0 = ⟨s0, s1, s2, s3⟩ := rfl
          have hsu := gatesL_succ ⟨s0, s1, s2, s3⟩ ⟨i0, ⟨i1, i2, i3, i4⟩, ⟨i5, i6, i7, i8⟩⟩ xs 0
          rw [hG, hN] at hsu
          obtain ⟨fn, tmps, assign, body, hyy, hR⟩ := hY (gatesL ⟨s0, s1, s2, s3⟩ ⟨i0, ⟨i1, i2, i3, i4⟩, ⟨i5, i6, i7, i8⟩⟩ xs 0) (0, ⟨s0, s1, s2, s3⟩, ⟨i0, ⟨i1, i2, i3, i4⟩, ⟨i5, i6, i7, i8⟩⟩) wr hJs ⟨0 + 1, by omega, hsu.symm⟩
          dsimp only [encG, gateCells] at hyy BG
          rw [show ((0 : Nat) : Int) = 0 from rfl] at hyy
          have hR' : RoundIn Fence.wide (m - 1) Tryz.prog l fn tmps assign body wr fun e W' => ∃ r : Bool, e = .returned (.b r) ∧ Hid ((r = true ∧ J (gatesL ⟨s0, s1, s2, s3⟩ ⟨i0, ⟨i1, i2, i3, i4⟩, ⟨i5, i6, i7, i8⟩⟩ xs (0 + 1)) W' ∧ KpG n₀ n₁ Bt wr W') ∨ (r = false ∧ Jx (gatesL ⟨s0, s1, s2, s3⟩ ⟨i0, ⟨i1, i2, i3, i4⟩, ⟨i5, i6, i7, i8⟩⟩ xs (0 + 1)) W')) := by
            refine hR.mono ?_
            rw [hsu]
            rintro e W' (⟨rfl, h1, h2⟩ | ⟨rfl, h1⟩)
            · exact ⟨true, rfl, .inl ⟨rfl, h1, h2⟩⟩
            · exact ⟨false, rfl, .inr ⟨rfl, h1⟩⟩
          have HBG := Lib.hid BG
          have HBT := Lib.hid BT
          have Hnx := Lib.hid hnx
          obtain ⟨g0, g1, g2, g3, g4, g5, g6, g7, g8, g9, g10, g11, g12⟩ := (⟨BG.cell 0, BG.cell 1, BG.cell 2, BG.cell 3, BG.cell 4, BG.cell 5, BG.cell 6, BG.cell 7, BG.cell 8, BG.cell 9, BG.cell 10, BG.cell 11, BG.cell 12⟩ : _ ∧ _ ∧ _ ∧ _ ∧ _ ∧ _ ∧ _ ∧ _ ∧ _ ∧ _ ∧ _ ∧ _ ∧ _)
          simp only [List.getElem?_toArray, List.getElem?_cons_zero, List.getElem?_cons_succ] at g0 g1 g2 g3 g4 g5 g6 g7 g8 g9 g10 g11 g12
          clear hR hY hJ hJs hsu hst hs hnx BT BG hG hN hJ1 HB0
          gi_wp2_with (refine hR'.mono ?_; rintro e W3 ⟨r, rfl, hr⟩; clear hR')
          all_goals cases r
          all_goals rcases hr.out with ⟨h, hJ4, hK⟩ | ⟨h, hx3⟩
          all_goals first
            | (exfalso; cases h; done)
            | (exfalso; rename_i hq; revert hq; decide)
            | (refine bodyPost_ret (results_none rfl _ _ _) rfl ?_; exact ⟨⟨_, rfl⟩, .inr ⟨_, ⟨1, Nat.le_refl _, rfl⟩, hx3⟩⟩)
            | (refine ⟨?_, ?measure⟩
               iterate 44 apply Exists.intro
               refine ⟨?rel, rfl⟩
               case rel => exact ⟨1, by omega, by go_num, hJ4, Hnx.out.trans hK.1, hK.2.1.trans HBT.out, ⟨s0, s1, s2, s3⟩, ⟨i0, ⟨i1, i2, i3, i4⟩, ⟨i5, i6, i7, i8⟩⟩, hK.2.2 _ _ hn₁ HBG.out, fun h => absurd h (by omega)⟩
               case measure => simp [intOf])
        · obtain ⟨b, off, x, rfl, hbB, hx, hcx⟩ := (hs.below hnx).at_ hn0
          have hG : gIv ⟨i0, ⟨i1, i2, i3, i4⟩, ⟨i5, i6, i7, i8⟩⟩ xs 0 = meetI [⟨i0, ⟨i1, i2, i3, i4⟩, ⟨i5, i6, i7, i8⟩⟩, x.a] := by
            unfold gIv gIv0 sliceAt
            rw [if_pos (by omega), if_pos rfl, List.getD_eq_getElem?_getD, hx]
            rfl
          have hN : gNum ⟨s0, s1, s2, s3⟩ xs 0 = ⟨s0, s1, s2, s3⟩ := rfl
          have hsu := gatesL_succ ⟨s0, s1, s2, s3⟩ ⟨i0, ⟨i1, i2, i3, i4⟩, ⟨i5, i6, i7, i8⟩⟩ xs 0
          rw [hG, hN] at hsu
          have e0 : wr.cell? ⟨b, off + 4, none⟩ = some (.b x.a.emp) := by have := hcx 4 _ rfl; simpa using this
          have e1 : wr.cell? ⟨b, off + 5, none⟩ = some (.i x.a.lo.k) := by have := hcx 5 _ rfl; simpa using this
          have e2 : wr.cell? ⟨b, off + 6, none⟩ = some (.b x.a.lo.n) := by have := hcx 6 _ rfl; simpa using this
          have e3 : wr.cell? ⟨b, off + 7, none⟩ = some (.u x.a.lo.m) := by have := hcx 7 _ rfl; simpa using this
          have e4 : wr.cell? ⟨b, off + 8, none⟩ = some (.i x.a.lo.e) := by have := hcx 8 _ rfl; simpa using this
          have e5 : wr.cell? ⟨b, off + 9, none⟩ = some (.i x.a.hi.k) := by have := hcx 9 _ rfl; simpa using this
          have e6 : wr.cell? ⟨b, off + 10, none⟩ = some (.b x.a.hi.n) := by have := hcx 10 _ rfl; simpa using this
          have e7 : wr.cell? ⟨b, off + 11, none⟩ = some (.u x.a.hi.m) := by have := hcx 11 _ rfl; simpa using this
          have e8 : wr.cell? ⟨b, off + 12, none⟩ = some (.i x.a.hi.e) := by have := hcx 12 _ rfl; simpa using this
          obtain ⟨xe, ⟨x0, ⟨x1, x2, x3, x4⟩, ⟨x5, x6, x7, x8⟩⟩, xo⟩ := x
          dsimp only at e0 e1 e2 e3 e4 e5 e6 e7 e8 hsu
          have HM := Lib.hid (fun A W (h : SlI W W.heap.size A 2 [⟨i0, ⟨i1, i2, i3, i4⟩, ⟨i5, i6, i7, i8⟩⟩, ⟨x0, ⟨x1, x2, x3, x4⟩, ⟨x5, x6, x7, x8⟩⟩]) => meetI_calls A 2 2 _ W h (by omega))
          have Hsu := Lib.hid hsu
          clear hsu hG
          generalize meetI [⟨i0, ⟨i1, i2, i3, i4⟩, ⟨i5, i6, i7, i8⟩⟩, ⟨x0, ⟨x1, x2, x3, x4⟩, ⟨x5, x6, x7, x8⟩⟩] = r at HM Hsu
          obtain ⟨r0, ⟨r1, r2, r3, r4⟩, ⟨r5, r6, r7, r8⟩⟩ := r
          dsimp only [gateCells] at BG
          have HBG := Lib.hid BG
          have HBT := Lib.hid BT
          have Hnx := Lib.hid hnx
          obtain ⟨g0, g1, g2, g3, g4, g5, g6, g7, g8, g9, g10, g11, g12⟩ := (⟨BG.cell 0, BG.cell 1, BG.cell 2, BG.cell 3, BG.cell 4, BG.cell 5, BG.cell 6, BG.cell 7, BG.cell 8, BG.cell 9, BG.cell 10, BG.cell 11, BG.cell 12⟩ : _ ∧ _ ∧ _ ∧ _ ∧ _ ∧ _ ∧ _ ∧ _ ∧ _ ∧ _ ∧ _ ∧ _ ∧ _)
          simp only [List.getElem?_toArray, List.getElem?_cons_zero, List.getElem?_cons_succ] at g0 g1 g2 g3 g4 g5 g6 g7 g8 g9 g10 g11 g12
          have HhJ := Lib.hid hJ
          have HhY := Lib.hid hY
          have HJs := Lib.hid hJs
          clear hY hJ hJs hst hs hnx BT BG hN hJ1 HB0 hcx hx
          gi_wp2
          gi_region_with (refine ⟨trivial, ?_⟩; gi_at_call 22; refine (callsIn_wide.2 (HM.out _ _ (SlI.lit2 (x := ⟨i0, ⟨i1, i2, i3, i4⟩, ⟨i5, i6, i7, i8⟩⟩) (y := ⟨x0, ⟨x1, x2, x3, x4⟩, ⟨x5, x6, x7, x8⟩⟩) (Blk.new wr _ _).drew (by simp)))).mono ?_; rintro e w2 ⟨rfl, hb⟩; have B2 := ((HBG.out.alloc (.cells #[.b i0, .i i1, .b i2, .u i3, .i i4, .i i5, .b i6, .u i7, .i i8, .b x0, .i x1, .b x2, .u x3, .i x4, .i x5, .b x6, .u x7, .i x8] 34)).drew).call hb; obtain ⟨k4, k5, k6, k7, k8, k9, k10, k11, k12⟩ := B2.g9; obtain ⟨f4, f5, f6, f7, f8, f9, f10, f11, f12⟩ := B2.f9)
          all_goals
            (obtain ⟨W4, hW4, B4, hg4⟩ := putG9 B2 (.b r0) (.i r1) (.b r2) (.u r3) (.i r4) (.i r5) (.b r6) (.u r7) (.i r8)
             rw [hW4]
             have hb2 : Below wr.heap.size wr w2 := bl_trans (bl_drew (bl_alloc (Below.refl _ _) (.cells #[.b i0, .i i1, .b i2, .u i3, .i i4, .i i5, .b i6, .u i7, .i i8, .b x0, .i x1, .b x2, .u x3, .i x4, .i x5, .b x6, .u x7, .i x8] 34))) hb
             have hsz := Hnx.out.size
             have hs2 := hb2.size
             have J2 := StayT.below HhJ.out HJs.out hb2
             have J4 := StayT.box HhJ.out J2 hg4 (Nat.le_refl _) B2
             have T4 := (HBT.out.call hb2).grown hg4 (by intro e; cases e; omega)
             have HB4 := (Hnx.out.trans (hb2.mono (by omega))).trans (grown_bel (n := n₀) hg4 (by omega) (by omega))
             clear hW4 hg4 B2 hb hb2 J2 k4 k5 k6 k7 k8 k9 k10 k11 k12 f4 f5 f6 f7 f8 f9 f10 f11 f12 g0 g1 g2 g3 g4 g5 g6 g7 g8 g9 g10 g11 g12 HBT HBG Hnx HJs HhJ HM e0 e1 e2 e3 e4 e5 e6 e7 e8 hsz hs2
             obtain ⟨fn, tmps, assign, body, hyy, hR⟩ := HhY.out (gatesL ⟨s0, s1, s2, s3⟩ ⟨i0, ⟨i1, i2, i3, i4⟩, ⟨i5, i6, i7, i8⟩⟩ xs 0) (0, ⟨s0, s1, s2, s3⟩, ⟨r0, ⟨r1, r2, r3, r4⟩, ⟨r5, r6, r7, r8⟩⟩) W4 J4 ⟨0 + 1, by omega, Hsu.out.symm⟩
             dsimp only [encG, gateCells] at hyy
             rw [show ((0 : Nat) : Int) = 0 from rfl] at hyy
             have hR' : RoundIn Fence.wide (m - 1) Tryz.prog l fn tmps assign body W4 fun e W' => ∃ r : Bool, e = .returned (.b r) ∧ Hid ((r = true ∧ J (gatesL ⟨s0, s1, s2, s3⟩ ⟨i0, ⟨i1, i2, i3, i4⟩, ⟨i5, i6, i7, i8⟩⟩ xs (0 + 1)) W' ∧ KpG n₀ n₁ Bt W4 W') ∨ (r = false ∧ Jx (gatesL ⟨s0, s1, s2, s3⟩ ⟨i0, ⟨i1, i2, i3, i4⟩, ⟨i5, i6, i7, i8⟩⟩ xs (0 + 1)) W')) := by
               refine hR.mono ?_
               rw [Hsu.out]
               rintro e W' (⟨rfl, h1, h2⟩ | ⟨rfl, h1⟩)
               · exact ⟨true, rfl, .inl ⟨rfl, h1, h2⟩⟩
               · exact ⟨false, rfl, .inr ⟨rfl, h1⟩⟩
             obtain ⟨g0, g1, g2, g3, g4, g5, g6, g7, g8, g9, g10, g11, g12⟩ := (⟨B4.cell 0, B4.cell 1, B4.cell 2, B4.cell 3, B4.cell 4, B4.cell 5, B4.cell 6, B4.cell 7, B4.cell 8, B4.cell 9, B4.cell 10, B4.cell 11, B4.cell 12⟩ : _ ∧ _ ∧ _ ∧ _ ∧ _ ∧ _ ∧ _ ∧ _ ∧ _ ∧ _ ∧ _ ∧ _ ∧ _)
             simp only [List.getElem?_toArray, List.getElem?_cons_zero, List.getElem?_cons_succ] at g0 g1 g2 g3 g4 g5 g6 g7 g8 g9 g10 g11 g12
             have HB4' := Lib.hid B4
             have HT4 := Lib.hid T4
             clear hR HhY J4 T4 B4
             gi_wp2_with (refine hR'.mono ?_; rintro e W3 ⟨r, rfl, hr⟩; clear hR'))
          all_goals cases r
          all_goals rcases hr.out with ⟨h, hJ4, hK⟩ | ⟨h, hx3⟩
          all_goals first
            | (exfalso; cases h; done)
            | (exfalso; rename_i hq; revert hq; decide)
            | (refine bodyPost_ret (results_none rfl _ _ _) rfl ?_; exact ⟨⟨_, rfl⟩, .inr ⟨_, ⟨1, by omega, rfl⟩, hx3⟩⟩)
            | (refine ⟨?rel, ?measure⟩
               case rel => exact ⟨1, by omega, by go_num, hJ4, HB4.trans hK.1, hK.2.1.trans HT4.out, ⟨s0, s1, s2, s3⟩, ⟨r0, ⟨r1, r2, r3, r4⟩, ⟨r5, r6, r7, r8⟩⟩, hK.2.2 _ _ hn₁ HB4'.out, fun h => absurd h (by omega)⟩
               case measure => simp [intOf])
      · obtain ⟨j, rfl⟩ : ∃ j, k = j + 1 := ⟨k - 1, by omega⟩
        obtain ⟨b, off, x, rfl, hbB, hx, hcx⟩ := (hs.below hnx).at_ (k := j) (by omega)
        have em : (((j + 1 : Nat) : Int) - 1) = j := by omega
        have hjp : 0 < j + 1 := by omega
        have hjn : j < n := by omega
        have hrg : World.rangeAt wr b (off + j * 22) (slcCells x) := fun q u hu => hcx q u hu
        have hN : gNum ⟨s0, s1, s2, s3⟩ xs (j + 1) = x.e := by
          unfold gNum sliceAt
          rw [if_neg (by omega), Nat.add_sub_cancel, List.getD_eq_getElem?_getD, hx]; rfl
        have hG0 : gIv0 ⟨i0, ⟨i1, i2, i3, i4⟩, ⟨i5, i6, i7, i8⟩⟩ xs (j + 1) = meetI [x.o, x.a] := by
          unfold gIv0 sliceAt
          rw [if_neg (by omega), Nat.add_sub_cancel, List.getD_eq_getElem?_getD, hx]; rfl
        have HM := Lib.hid (fun A W (h : SlI W W.heap.size A 2 [x.o, x.a]) => meetI_calls A 2 2 _ W h (by omega))
        have HBG := Lib.hid BG
        have HBT := Lib.hid BT
        have Hnx := Lib.hid hnx
        have HhJ := Lib.hid hJ
        have HhY := Lib.hid hY
        have HJs := Lib.hid hJs
        have Hs := Lib.hid hs
        have Hcx := Lib.hid hcx
        clear hY hJ hJs hst hs hnx BT BG hJ1 HB0 hcx hx
        gi_wp2_with (first
          | (refine wpListIn_loadM rfl 62 (.tmp 24) rfl b (off + j * 22) rfl (slcCells x) _ hrg Tryz.underlying62 rfl (by kernel_rfl) ?_)
          | (refine wpListIn_storeM rfl 62 (.tmp 5) (.tmp 25) rfl wr.heap.size _ (slcCells x).toArray (Blk.new wr _ _) rfl rfl (by kernel_rfl) rfl (slc_one x) ?_; intro W1 BS P1))
        obtain ⟨⟨x0, x1, x2, x3⟩, ⟨y0, ⟨y1, y2, y3, y4⟩, ⟨y5, y6, y7, y8⟩⟩, ⟨z0, ⟨z1, z2, z3, z4⟩, ⟨z5, z6, z7, z8⟩⟩⟩ := x
        dsimp only at HM hG0 hN
        have q0 : W1.cell? ⟨wr.heap.size, 0, none⟩ = some (.i x0) := BS.cell 0
        have q1 : W1.cell? ⟨wr.heap.size, 1, none⟩ = some (.b x1) := BS.cell 1
        have q2 : W1.cell? ⟨wr.heap.size, 2, none⟩ = some (.u x2) := BS.cell 2
        have q3 : W1.cell? ⟨wr.heap.size, 3, none⟩ = some (.i x3) := BS.cell 3
        have q4 : W1.cell? ⟨wr.heap.size, 4, none⟩ = some (.b y0) := BS.cell 4
        have q5 : W1.cell? ⟨wr.heap.size, 5, none⟩ = some (.i y1) := BS.cell 5
        have q6 : W1.cell? ⟨wr.heap.size, 6, none⟩ = some (.b y2) := BS.cell 6
        have q7 : W1.cell? ⟨wr.heap.size, 7, none⟩ = some (.u y3) := BS.cell 7
        have q8 : W1.cell? ⟨wr.heap.size, 8, none⟩ = some (.i y4) := BS.cell 8
        have q9 : W1.cell? ⟨wr.heap.size, 9, none⟩ = some (.i y5) := BS.cell 9
        have q10 : W1.cell? ⟨wr.heap.size, 10, none⟩ = some (.b y6) := BS.cell 10
        have q11 : W1.cell? ⟨wr.heap.size, 11, none⟩ = some (.u y7) := BS.cell 11
        have q12 : W1.cell? ⟨wr.heap.size, 12, none⟩ = some (.i y8) := BS.cell 12
        have q13 : W1.cell? ⟨wr.heap.size, 13, none⟩ = some (.b z0) := BS.cell 13
        have q14 : W1.cell? ⟨wr.heap.size, 14, none⟩ = some (.i z1) := BS.cell 14
        have q15 : W1.cell? ⟨wr.heap.size, 15, none⟩ = some (.b z2) := BS.cell 15
        have q16 : W1.cell? ⟨wr.heap.size, 16, none⟩ = some (.u z3) := BS.cell 16
        have q17 : W1.cell? ⟨wr.heap.size, 17, none⟩ = some (.i z4) := BS.cell 17
        have q18 : W1.cell? ⟨wr.heap.size, 18, none⟩ = some (.i z5) := BS.cell 18
        have q19 : W1.cell? ⟨wr.heap.size, 19, none⟩ = some (.b z6) := BS.cell 19
        have q20 : W1.cell? ⟨wr.heap.size, 20, none⟩ = some (.u z7) := BS.cell 20
        have q21 : W1.cell? ⟨wr.heap.size, 21, none⟩ = some (.i z8) := BS.cell 21
        have HG0 := Lib.hid hG0
        clear hG0
        generalize meetI [⟨z0, ⟨z1, z2, z3, z4⟩, ⟨z5, z6, z7, z8⟩⟩, ⟨y0, ⟨y1, y2, y3, y4⟩, ⟨y5, y6, y7, y8⟩⟩] = r at HM HG0
        obtain ⟨r0, ⟨r1, r2, r3, r4⟩, ⟨r5, r6, r7, r8⟩⟩ := r
        have BG1 : Blk W1 W.heap.size 122 (gateCells u v).toArray := P1.blk (HBG.out.alloc _) (by have := HBG.out.lt; omega)
        have hS1 := BS.lt
        have J1 : J (gatesL ⟨s0, s1, s2, s3⟩ ⟨i0, ⟨i1, i2, i3, i4⟩, ⟨i5, i6, i7, i8⟩⟩ xs (j + 1)) W1 := HhJ.out.putNew HJs.out P1 Hnx.out.size (by simp)
        have BL1 : Below n₀ W W1 := P1.bel (Hnx.out.alloc (Nat.le_trans (Nat.le_trans hn₀ hn₁) Hnx.out.size) _) (Nat.le_trans (Nat.le_trans hn₀ hn₁) Hnx.out.size)
        have T1 : Blk W1 Bt 37 #[.i s0, .b s1, .u s2, .i s3, .b i0, .i i1, .b i2, .u i3, .i i4, .i i5, .b i6, .u i7, .i i8, .slice (some ⟨b, off, none⟩) n c] := P1.blk (HBT.out.alloc _) (by have := HBT.out.lt; omega)
        have hsW : W.heap.size < W1.heap.size := BG1.lt
        apply wpIn_join (fun v => J (gatesL ⟨s0, s1, s2, s3⟩ ⟨i0, ⟨i1, i2, i3, i4⟩, ⟨i5, i6, i7, i8⟩⟩ xs (j + 1)) v ∧ Below n₀ W v ∧ Blk v Bt 37 #[.i s0, .b s1, .u s2, .i s3, .b i0, .i i1, .b i2, .u i3, .i i4, .i i5, .b i6, .u i7, .i i8, .slice (some ⟨b, off, none⟩) n c] ∧ Blk v W.heap.size 122 #[.i x0, .b x1, .u x2, .i x3, .b r0, .i r1, .b r2, .u r3, .i r4, .i r5, .b r6, .u r7, .i r8])
        · gi_region_with (refine ⟨trivial, ?_⟩; gi_at_call 22; refine (callsIn_wide.2 (HM.out _ _ (SlI.lit2 (x := ⟨z0, ⟨z1, z2, z3, z4⟩, ⟨z5, z6, z7, z8⟩⟩) (y := ⟨y0, ⟨y1, y2, y3, y4⟩, ⟨y5, y6, y7, y8⟩⟩) (Blk.new W1 _ _).drew (by simp)))).mono ?_; rintro e w2 ⟨rfl, hb⟩; have hb2 : Below W1.heap.size W1 w2 := bl_trans (bl_drew (bl_alloc (Below.refl _ _) (.cells #[.b z0, .i z1, .b z2, .u z3, .i z4, .i z5, .b z6, .u z7, .i z8, .b y0, .i y1, .b y2, .u y3, .i y4, .i y5, .b y6, .u y7, .i y8] 34))) hb; have B2 := BG1.call hb2; have S2 := BS.call hb2; have k0 := B2.cell 0; have f0 := B2.frozen 0; have k1 := B2.cell 1; have f1 := B2.frozen 1; have k2 := B2.cell 2; have f2 := B2.frozen 2; have k3 := B2.cell 3; have f3 := B2.frozen 3; have k4 := B2.cell 4; have f4 := B2.frozen 4; have k5 := B2.cell 5; have f5 := B2.frozen 5; have k6 := B2.cell 6; have f6 := B2.frozen 6; have k7 := B2.cell 7; have f7 := B2.frozen 7; have k8 := B2.cell 8; have f8 := B2.frozen 8; have k9 := B2.cell 9; have f9 := B2.frozen 9; have k10 := B2.cell 10; have f10 := B2.frozen 10; have k11 := B2.cell 11; have f11 := B2.frozen 11; have k12 := B2.cell 12; have f12 := B2.frozen 12; have t0 : w2.cell? ⟨wr.heap.size, 0, none⟩ = some (.i x0) := S2.cell 0; have t1 : w2.cell? ⟨wr.heap.size, 1, none⟩ = some (.b x1) := S2.cell 1; have t2 : w2.cell? ⟨wr.heap.size, 2, none⟩ = some (.u x2) := S2.cell 2; have t3 : w2.cell? ⟨wr.heap.size, 3, none⟩ = some (.i x3) := S2.cell 3; simp only [gateCells, List.getElem?_toArray, List.getElem?_cons_zero, List.getElem?_cons_succ] at k0 k1 k2 k3 k4 k5 k6 k7 k8 k9 k10 k11 k12)
          all_goals
            (obtain ⟨W4, hW4, B4, hg4⟩ := putG13 B2 (.i x0) (.b x1) (.u x2) (.i x3) (.b r0) (.i r1) (.b r2) (.u r3) (.i r4) (.i r5) (.b r6) (.u r7) (.i r8)
             rw [hW4]
             exact ⟨rfl, StayT.box HhJ.out (StayT.below HhJ.out J1 hb2) hg4 (Nat.le_refl _) B2, (BL1.trans (hb2.mono (by omega))).trans (grown_bel (n := n₀) hg4 (by omega) (by have := hb2.size; omega)), (T1.call hb2).grown hg4 (by intro e; cases e; omega), B4⟩)
        · rintro v6 ⟨hJ6, hB6, hT6, hG6⟩
          clear q0 q1 q2 q3 q4 q5 q6 q7 q8 q9 q10 q11 q12 q13 q14 q15 q16 q17 q18 q19 q20 q21 BS P1 BG1 J1 BL1 T1 hS1 hsW HM HBG HBT Hnx HJs Hcx r13 hrg
          have r13 := hT6.cell 13
          simp only [List.getElem?_toArray, List.getElem?_cons_zero, List.getElem?_cons_succ] at r13
          by_cases hlt : j + 1 < n
          · obtain ⟨b2, off2, x2, hA2, hbB2, hx2, hcx2⟩ := (Hs.out.below hB6).at_ hlt
            cases hA2
            have hG : gIv ⟨i0, ⟨i1, i2, i3, i4⟩, ⟨i5, i6, i7, i8⟩⟩ xs (j + 1) = meetI [⟨r0, ⟨r1, r2, r3, r4⟩, ⟨r5, r6, r7, r8⟩⟩, x2.a] := by
              unfold gIv
              rw [if_pos (by rw [Hs.out.1]; exact hlt), HG0.out]
              unfold sliceAt
              rw [List.getD_eq_getElem?_getD, hx2]
              rfl
            have hsu := gatesL_succ ⟨s0, s1, s2, s3⟩ ⟨i0, ⟨i1, i2, i3, i4⟩, ⟨i5, i6, i7, i8⟩⟩ xs (j + 1)
            rw [hG, hN] at hsu
            have hltI : ((j : Int) + 1 < (n : Int)) := by omega
            have e0 : v6.cell? ⟨b, off + (j + 1) * 22 + 4, none⟩ = some (.b x2.a.emp) := by have := hcx2 4 _ rfl; simpa using this
            have e1 : v6.cell? ⟨b, off + (j + 1) * 22 + 5, none⟩ = some (.i x2.a.lo.k) := by have := hcx2 5 _ rfl; simpa using this
            have e2 : v6.cell? ⟨b, off + (j + 1) * 22 + 6, none⟩ = some (.b x2.a.lo.n) := by have := hcx2 6 _ rfl; simpa using this
            have e3 : v6.cell? ⟨b, off + (j + 1) * 22 + 7, none⟩ = some (.u x2.a.lo.m) := by have := hcx2 7 _ rfl; simpa using this
            have e4 : v6.cell? ⟨b, off + (j + 1) * 22 + 8, none⟩ = some (.i x2.a.lo.e) := by have := hcx2 8 _ rfl; simpa using this
            have e5 : v6.cell? ⟨b, off + (j + 1) * 22 + 9, none⟩ = some (.i x2.a.hi.k) := by have := hcx2 9 _ rfl; simpa using this
            have e6 : v6.cell? ⟨b, off + (j + 1) * 22 + 10, none⟩ = some (.b x2.a.hi.n) := by have := hcx2 10 _ rfl; simpa using this
            have e7 : v6.cell? ⟨b, off + (j + 1) * 22 + 11, none⟩ = some (.u x2.a.hi.m) := by have := hcx2 11 _ rfl; simpa using this
            have e8 : v6.cell? ⟨b, off + (j + 1) * 22 + 12, none⟩ = some (.i x2.a.hi.e) := by have := hcx2 12 _ rfl; simpa using this
            obtain ⟨xe, ⟨a0, ⟨a1, a2, a3, a4⟩, ⟨a5, a6, a7, a8⟩⟩, xo⟩ := x2
            dsimp only at e0 e1 e2 e3 e4 e5 e6 e7 e8 hsu
            have HM := Lib.hid (fun A W (h : SlI W W.heap.size A 2 [⟨r0, ⟨r1, r2, r3, r4⟩, ⟨r5, r6, r7, r8⟩⟩, ⟨a0, ⟨a1, a2, a3, a4⟩, ⟨a5, a6, a7, a8⟩⟩]) => meetI_calls A 2 2 _ W h (by omega))
            have Hsu := Lib.hid hsu
            clear hsu hG hcx2 hx2 hN
            generalize meetI [⟨r0, ⟨r1, r2, r3, r4⟩, ⟨r5, r6, r7, r8⟩⟩, ⟨a0, ⟨a1, a2, a3, a4⟩, ⟨a5, a6, a7, a8⟩⟩] = p at HM Hsu
            obtain ⟨p0, ⟨p1, p2, p3, p4⟩, ⟨p5, p6, p7, p8⟩⟩ := p
            have HG6 := Lib.hid hG6
            have HT6 := Lib.hid hT6
            have HB6 := Lib.hid hB6
            have HJ6 := Lib.hid hJ6
            obtain ⟨g0, g1, g2, g3, g4, g5, g6, g7, g8, g9, g10, g11, g12⟩ := (⟨hG6.cell 0, hG6.cell 1, hG6.cell 2, hG6.cell 3, hG6.cell 4, hG6.cell 5, hG6.cell 6, hG6.cell 7, hG6.cell 8, hG6.cell 9, hG6.cell 10, hG6.cell 11, hG6.cell 12⟩ : _ ∧ _ ∧ _ ∧ _ ∧ _ ∧ _ ∧ _ ∧ _ ∧ _ ∧ _ ∧ _ ∧ _ ∧ _)
            simp only [List.getElem?_toArray, List.getElem?_cons_zero, List.getElem?_cons_succ] at g0 g1 g2 g3 g4 g5 g6 g7 g8 g9 g10 g11 g12
            have hsW : W.heap.size < v6.heap.size := hG6.lt
            clear hG6 hT6 hB6 hJ6
            gi_wp2
            apply wpIn_join (fun v => J (gatesL ⟨s0, s1, s2, s3⟩ ⟨i0, ⟨i1, i2, i3, i4⟩, ⟨i5, i6, i7, i8⟩⟩ xs (j + 1)) v ∧ Below n₀ W v ∧ Blk v Bt 37 #[.i s0, .b s1, .u s2, .i s3, .b i0, .i i1, .b i2, .u i3, .i i4, .i i5, .b i6, .u i7, .i i8, .slice (some ⟨b, off, none⟩) n c] ∧ Blk v W.heap.size 122 #[.i x0, .b x1, .u x2, .i x3, .b p0, .i p1, .b p2, .u p3, .i p4, .i p5, .b p6, .u p7, .i p8])
            · gi_region_with (refine ⟨trivial, ?_⟩; gi_at_call 22; refine (callsIn_wide.2 (HM.out _ _ (SlI.lit2 (x := ⟨r0, ⟨r1, r2, r3, r4⟩, ⟨r5, r6, r7, r8⟩⟩) (y := ⟨a0, ⟨a1, a2, a3, a4⟩, ⟨a5, a6, a7, a8⟩⟩) (Blk.new v6 _ _).drew (by simp)))).mono ?_; rintro e w2 ⟨rfl, hb⟩; have hb2 : Below v6.heap.size v6 w2 := bl_trans (bl_drew (bl_alloc (Below.refl _ _) (.cells #[.b r0, .i r1, .b r2, .u r3, .i r4, .i r5, .b r6, .u r7, .i r8, .b a0, .i a1, .b a2, .u a3, .i a4, .i a5, .b a6, .u a7, .i a8] 34))) hb; have B2 := HG6.out.call hb2; obtain ⟨k4, k5, k6, k7, k8, k9, k10, k11, k12⟩ := B2.g9; obtain ⟨f4, f5, f6, f7, f8, f9, f10, f11, f12⟩ := B2.f9)
              all_goals
                (obtain ⟨W4, hW4, B4, hg4⟩ := putG9 B2 (.b p0) (.i p1) (.b p2) (.u p3) (.i p4) (.i p5) (.b p6) (.u p7) (.i p8)
                 rw [hW4]
                 exact ⟨rfl, StayT.box HhJ.out (StayT.below HhJ.out HJ6.out hb2) hg4 (Nat.le_refl _) B2, (HB6.out.trans (hb2.mono (by omega))).trans (grown_bel (n := n₀) hg4 (by omega) (by have := hb2.size; omega)), (HT6.out.call hb2).grown hg4 (by intro e; cases e; omega), B4⟩)
            · rintro v8 ⟨hJ8, hB8, hT8, hG8⟩
              clear g0 g1 g2 g3 g4 g5 g6 g7 g8 g9 g10 g11 g12 e0 e1 e2 e3 e4 e5 e6 e7 e8 HG6 HT6 HB6 HJ6 HM r13
              obtain ⟨fn, tmps, assign, body, hyy, hR⟩ := HhY.out (gatesL ⟨s0, s1, s2, s3⟩ ⟨i0, ⟨i1, i2, i3, i4⟩, ⟨i5, i6, i7, i8⟩⟩ xs (j + 1)) (j + 1, ⟨x0, x1, x2, x3⟩, ⟨p0, ⟨p1, p2, p3, p4⟩, ⟨p5, p6, p7, p8⟩⟩) v8 hJ8 ⟨j + 1 + 1, by omega, Hsu.out.symm⟩
              dsimp only [encG, gateCells] at hyy
              rw [show ((j + 1 : Nat) : Int) = (j : Int) + 1 from rfl] at hyy
              have hR' : RoundIn Fence.wide (m - 1) Tryz.prog l fn tmps assign body v8 fun e W' => ∃ r : Bool, e = .returned (.b r) ∧ Hid ((r = true ∧ J (gatesL ⟨s0, s1, s2, s3⟩ ⟨i0, ⟨i1, i2, i3, i4⟩, ⟨i5, i6, i7, i8⟩⟩ xs (j + 1 + 1)) W' ∧ KpG n₀ n₁ Bt v8 W') ∨ (r = false ∧ Jx (gatesL ⟨s0, s1, s2, s3⟩ ⟨i0, ⟨i1, i2, i3, i4⟩, ⟨i5, i6, i7, i8⟩⟩ xs (j + 1 + 1)) W')) := by
                refine hR.mono ?_
                rw [Hsu.out]
                rintro e W' (⟨rfl, h1, h2⟩ | ⟨rfl, h1⟩)
                · exact ⟨true, rfl, .inl ⟨rfl, h1, h2⟩⟩
                · exact ⟨false, rfl, .inr ⟨rfl, h1⟩⟩
              obtain ⟨g0, g1, g2, g3, g4, g5, g6, g7, g8, g9, g10, g11, g12⟩ := (⟨hG8.cell 0, hG8.cell 1, hG8.cell 2, hG8.cell 3, hG8.cell 4, hG8.cell 5, hG8.cell 6, hG8.cell 7, hG8.cell 8, hG8.cell 9, hG8.cell 10, hG8.cell 11, hG8.cell 12⟩ : _ ∧ _ ∧ _ ∧ _ ∧ _ ∧ _ ∧ _ ∧ _ ∧ _ ∧ _ ∧ _ ∧ _ ∧ _)
              simp only [List.getElem?_toArray, List.getElem?_cons_zero, List.getElem?_cons_succ] at g0 g1 g2 g3 g4 g5 g6 g7 g8 g9 g10 g11 g12
              have HGv := Lib.hid hG8
              have HTv := Lib.hid hT8
              have HBv := Lib.hid hB8
              clear hR HhY hJ8 hT8 hG8 hB8
              gi_wp2_with (refine hR'.mono ?_; rintro e W3 ⟨r, rfl, hr⟩; clear hR')
              all_goals cases r
              all_goals rcases hr.out with ⟨h, hJ4, hK⟩ | ⟨h, hx3⟩
              all_goals first
                | (exfalso; cases h; done)
                | (exfalso; rename_i hq; revert hq; decide)
                | (refine bodyPost_ret (results_none rfl _ _ _) rfl ?_; exact ⟨⟨_, rfl⟩, .inr ⟨_, ⟨j + 1 + 1, by omega, rfl⟩, hx3⟩⟩)
                | (refine ⟨?_, ?measure⟩
                   iterate 44 apply Exists.intro
                   refine ⟨?rel, rfl⟩
                   case rel => exact ⟨j + 1 + 1, by omega, by go_num, hJ4, HBv.out.trans hK.1, hK.2.1.trans HTv.out, ⟨x0, x1, x2, x3⟩, ⟨p0, ⟨p1, p2, p3, p4⟩, ⟨p5, p6, p7, p8⟩⟩, hK.2.2 _ _ hn₁ HGv.out, fun h => absurd h (by omega)⟩
                   case measure => first | (simp [intOf]; done) | (simp [intOf]; omega))
                | (refine ⟨?rel, ?measure⟩
                   case rel => exact ⟨j + 1 + 1, by omega, by go_num, hJ4, HBv.out.trans hK.1, hK.2.1.trans HTv.out, ⟨x0, x1, x2, x3⟩, ⟨p0, ⟨p1, p2, p3, p4⟩, ⟨p5, p6, p7, p8⟩⟩, hK.2.2 _ _ hn₁ HGv.out, fun h => absurd h (by omega)⟩
                   case measure => first | (simp [intOf]; done) | (simp [intOf]; omega))
          · have hG : gIv ⟨i0, ⟨i1, i2, i3, i4⟩, ⟨i5, i6, i7, i8⟩⟩ xs (j + 1) = ⟨r0, ⟨r1, r2, r3, r4⟩, ⟨r5, r6, r7, r8⟩⟩ := by
              unfold gIv
              rw [if_neg (by rw [Hs.out.1]; exact hlt), HG0.out]
            have hsu := gatesL_succ ⟨s0, s1, s2, s3⟩ ⟨i0, ⟨i1, i2, i3, i4⟩, ⟨i5, i6, i7, i8⟩⟩ xs (j + 1)
            rw [hG, hN] at hsu
            have Hsu := Lib.hid hsu
            clear hsu hG hN
            have hltI : ¬ ((j : Int) + 1 < (n : Int)) := by omega
            obtain ⟨fn, tmps, assign, body, hyy, hR⟩ := HhY.out (gatesL ⟨s0, s1, s2, s3⟩ ⟨i0, ⟨i1, i2, i3, i4⟩, ⟨i5, i6, i7, i8⟩⟩ xs (j + 1)) (j + 1, ⟨x0, x1, x2, x3⟩, ⟨r0, ⟨r1, r2, r3, r4⟩, ⟨r5, r6, r7, r8⟩⟩) v6 hJ6 ⟨j + 1 + 1, by omega, Hsu.out.symm⟩
            dsimp only [encG, gateCells] at hyy
            rw [show ((j + 1 : Nat) : Int) = (j : Int) + 1 from rfl] at hyy
            have hR' : RoundIn Fence.wide (m - 1) Tryz.prog l fn tmps assign body v6 fun e W' => ∃ r : Bool, e = .returned (.b r) ∧ Hid ((r = true ∧ J (gatesL ⟨s0, s1, s2, s3⟩ ⟨i0, ⟨i1, i2, i3, i4⟩, ⟨i5, i6, i7, i8⟩⟩ xs (j + 1 + 1)) W' ∧ KpG n₀ n₁ Bt v6 W') ∨ (r = false ∧ Jx (gatesL ⟨s0, s1, s2, s3⟩ ⟨i0, ⟨i1, i2, i3, i4⟩, ⟨i5, i6, i7, i8⟩⟩ xs (j + 1 + 1)) W')) := by
              refine hR.mono ?_
              rw [Hsu.out]
              rintro e W' (⟨rfl, h1, h2⟩ | ⟨rfl, h1⟩)
              · exact ⟨true, rfl, .inl ⟨rfl, h1, h2⟩⟩
              · exact ⟨false, rfl, .inr ⟨rfl, h1⟩⟩
            obtain ⟨g0, g1, g2, g3, g4, g5, g6, g7, g8, g9, g10, g11, g12⟩ := (⟨hG6.cell 0, hG6.cell 1, hG6.cell 2, hG6.cell 3, hG6.cell 4, hG6.cell 5, hG6.cell 6, hG6.cell 7, hG6.cell 8, hG6.cell 9, hG6.cell 10, hG6.cell 11, hG6.cell 12⟩ : _ ∧ _ ∧ _ ∧ _ ∧ _ ∧ _ ∧ _ ∧ _ ∧ _ ∧ _ ∧ _ ∧ _ ∧ _)
            simp only [List.getElem?_toArray, List.getElem?_cons_zero, List.getElem?_cons_succ] at g0 g1 g2 g3 g4 g5 g6 g7 g8 g9 g10 g11 g12
            have HGv := Lib.hid hG6
            have HTv := Lib.hid hT6
            have HBv := Lib.hid hB6
            clear hR HhY hJ6 hT6 hG6 hB6
            gi_wp2_with (refine hR'.mono ?_; rintro e W3 ⟨r, rfl, hr⟩; clear hR')
            all_goals cases r
            all_goals rcases hr.out with ⟨h, hJ4, hK⟩ | ⟨h, hx3⟩
            all_goals first
              | (exfalso; cases h; done)
              | (exfalso; rename_i hq; revert hq; decide)
              | (refine bodyPost_ret (results_none rfl _ _ _) rfl ?_; exact ⟨⟨_, rfl⟩, .inr ⟨_, ⟨j + 1 + 1, by omega, rfl⟩, hx3⟩⟩)
              | (refine ⟨?_, ?measure⟩
                 iterate 44 apply Exists.intro
                 refine ⟨?rel, rfl⟩
                 case rel => exact ⟨j + 1 + 1, by omega, by go_num, hJ4, HBv.out.trans hK.1, hK.2.1.trans HTv.out, ⟨x0, x1, x2, x3⟩, ⟨r0, ⟨r1, r2, r3, r4⟩, ⟨r5, r6, r7, r8⟩⟩, hK.2.2 _ _ hn₁ HGv.out, fun h => absurd h (by omega)⟩
                 case measure => first | (simp [intOf]; done) | (simp [intOf]; omega))
              | (refine ⟨?rel, ?measure⟩
                 case rel => exact ⟨j + 1 + 1, by omega, by go_num, hJ4, HBv.out.trans hK.1, hK.2.1.trans HTv.out, ⟨x0, x1, x2, x3⟩, ⟨r0, ⟨r1, r2, r3, r4⟩, ⟨r5, r6, r7, r8⟩⟩, hK.2.2 _ _ hn₁ HGv.out, fun h => absurd h (by omega)⟩
                 case measure => first | (simp [intOf]; done) | (simp [intOf]; omega))
theorem gates_stops (m : Nat) (hm : 1 ≤ m) (Bt n₀ n₁ n c : Nat) (A : Option Addr) (xs : List Slc) (s0 : Int) (s1 : Bool) (s2 s3 : Int) (i0 : Bool) (i1 : Int) (i2 : Bool) (i3 i4 i5 : Int) (i6 : Bool) (i7 i8 : Int) (hn : n ≤ 64) (w : World) (hBt : Blk w Bt 37 #[.i s0, .b s1, .u s2, .i s3, .b i0, .i i1, .b i2, .u i3, .i i4, .i i5, .b i6, .u i7, .i i8, .slice A n c]) (hn₀ : n₀ ≤ n₁) (hn₁ : n₁ ≤ w.heap.size) (hs : SlT w n₀ A n xs) :
    SeqT Fence.wide m Tryz.prog 102 #[.pointer (some ⟨Bt, 0, none⟩)] encG (KpG n₀ n₁ Bt) boxTs (fun zs => zs = gatesL ⟨s0, s1, s2, s3⟩ ⟨i0, ⟨i1, i2, i3, i4⟩, ⟨i5, i6, i7, i8⟩⟩ xs (n + 1)) (fun pre => ∃ k, k ≤ n + 1 ∧ pre = gatesL ⟨s0, s1, s2, s3⟩ ⟨i0, ⟨i1, i2, i3, i4⟩, ⟨i5, i6, i7, i8⟩⟩ xs k) w := fun l J Jx W hW hJ _ hY h0 => by
  exact gates1_in m hm l Bt n₀ n₁ n c A xs s0 s1 s2 s3 i0 i1 i2 i3 i4 i5 i6 i7 i8 hn J Jx W hJ hY (hBt.call hW) hn₀ (Nat.le_trans hn₁ hW.size) (hs.below (hW.mono (Nat.le_trans hn₀ hn₁))) h0
end Go.Proofs.YteabdeohhmbclaaGreat.Wk
