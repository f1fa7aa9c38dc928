/- Walk: arith.minus, its words given. -/
import Derived.Test.YteabdeohhmbclaaGreatAriXy
namespace Go.Proofs.YteabdeohhmbclaaGreat.Wk
open Go.RowKit Go.Proofs.Pl Go.Proofs.YteabdeohhmbclaaGreatW.PrintLast
set_option linter.unusedSimpArgs false
set_option linter.unusedVariables false

set_option maxRecDepth 100000 in
set_option maxHeartbeats 4000000 in
theorem minus_walk (n n' : Bool) (Mz mz ea eb dz : Int) (up : Bool) (hiz loz lz Lz bz Hz H1 L1 e1 A B H2 L2 f : Int) (ct cut : Bool) (u : Nat) (r : Num) (hdz : ea - eb = dz) (hdr : 0 ≤ dz ∧ dz < 9223372036854775808)
  (hl : lz = if ct = true then 1 else 0) (hH : (Hz = 0 ∧ H1 = Lz ∧ L1 = 0 ∧ e1 = ea - 64) ∨ (Hz ≠ 0 ∧ H1 = Hz ∧ L1 = Lz ∧ e1 = ea)) (hea : -1048576 ≤ ea ∧ ea ≤ 1048576) (hu : u < 64)
  (h0 : u = 0 → H2 = H1 ∧ L2 = L1 ∧ f = e1) (hf : f = e1 - u) (hA : IntKind.u64.wrap (H1 * 2 ^ u) = A) (hB : 0 < u → L1 / 2 ^ (64 - u) = B) (hor : 0 < u → bits .or .u64 A B = H2) (hL2 : IntKind.u64.wrap (L1 * 2 ^ u) = L2)
  (hcut : cut = (ct || decide (L2 ≠ 0)))
  (w : World) (hL : ∀ W, Calls Tryz.prog 95 #[.u mz, .i dz] W fun x w' => x = .returned (.agg #[.u hiz, .u loz, .b ct]) ∧ Below W.heap.size W w')
  (hS1 : ∀ W : World, (callFunc 98 #[.u 0, .u loz, .u lz]).run Tryz.prog W = .ok (.value (.tuple #[.u Lz, .u bz])) W)
  (hS2 : ∀ W : World, (callFunc 98 #[.u Mz, .u hiz, .u bz]).run Tryz.prog W = .ok (.value (.tuple #[.u Hz, .u 0])) W)
  (hZ : ∀ W, Calls Tryz.prog 21 #[.u H1] W fun x w' => x = .returned (.i u) ∧ Below W.heap.size W w')
  (hG : ∀ W, Calls Tryz.prog 97 #[.b n, .u H2, .i f, .b cut, .b (up != n)] W fun x w' => x = .returned (.agg #[.i (r).k, .b (r).n, .u (r).m, .i (r).e]) ∧ Below W.heap.size W w') :
  Calls Tryz.prog 84 #[.agg #[.i 1, .b n, .u Mz, .i ea], .agg #[.i 1, .b n', .u mz, .i eb], .b up] w fun x w' => x = .returned (.agg #[.i (r).k, .b (r).n, .u (r).m, .i (r).e]) ∧ Below w.heap.size w w' := by
 have X0 := ((Blk.new w 32 #[.i 1, .b n, .u Mz, .i ea]).alloc (.cells #[.i 1, .b n', .u mz, .i eb] 32)).alloc (.cells #[.i 0, .b false, .u 0, .i 0] 32)
 have BR0 := Blk.new2 w (.cells #[.i 1, .b n, .u Mz, .i ea] 32) (.cells #[.i 1, .b n', .u mz, .i eb] 32) 32 #[.i 0, .b false, .u 0, .i 0]
 have HB0 := bl_alloc (bl_alloc (bl_alloc (Below.refl w.heap.size w) (.cells #[.i 1, .b n, .u Mz, .i ea] 32)) (.cells #[.i 1, .b n', .u mz, .i eb] 32)) (.cells #[.i 0, .b false, .u 0, .i 0] 32)
 have HL := Lib.hid hL
 have HZ := Lib.hid hZ
 have HG := Lib.hid hG
 obtain ⟨hd0, hd1⟩ := hdr
 obtain ⟨hea0, hea1⟩ := hea
 have hsub : IntKind.i64.wrap (ea - eb) = dz := by rw [hdz, wrap_i (by omega) (by omega)]
 have hsub2 : wrap64 (ea - eb) = dz := by rw [hdz]; unfold wrap64; omega
 clear hL hZ hG
 have hlz : ct = true ∧ lz = 1 ∨ ct = false ∧ lz = 0 := by
  cases ct
  ·right; exact ⟨rfl, by simpa using hl⟩
  ·left; exact ⟨rfl, by simpa using hl⟩
 clear hl
 by_cases hu0 : u = 0
 ·obtain ⟨rfl, rfl, rfl⟩ := h0 hu0
  subst hu0
  clear h0 hA hB hor hL2 hf
  by_cases hz : L2 = 0
  ·subst hz
   rw [show decide ((0 : Int) ≠ 0) = false from rfl, Bool.or_false] at hcut
   subst hcut
   rcases hlz with ⟨rfl, rfl⟩ | ⟨rfl, rfl⟩ <;> rcases hH with ⟨rfl, rfl, h6, rfl⟩ | ⟨h7, rfl, h6, rfl⟩
   ·skip
    go_enter Tryz.func84, Tryz.ntmps84
    go_wp2_with (first
     | (go_at_call 95; (refine (HL.out _).mono ?_); rintro e' w1 ⟨rfl, hb⟩; have HB1 := bl_trans HB0 hb; have X1 := X0.call hb; have BR1 := BR0.call hb; have hx1 := X1.lt; have hx2 := BR1.lt; clear hb)
     | (refine wpList_stG rfl 125 (.tmp 7) (.tmp 22) rfl w1.heap.size _ #[.u hiz, .u loz, .b true] (Blk.new w1 _ _) rfl rfl (by kernel_rfl) rfl (by simp [Value.oneCell']) ?_; intro W2 D2 P2; have X2 := P2.blk (X1.alloc _) (by omega); have BR2 := P2.blk (BR1.alloc _) (by omega); have HB2 := P2.bel (bl_alloc HB1 _) (by omega); obtain ⟨⟨a0, a1, a2, a3⟩, _⟩ := X2.c4; have d0 := D2.cell 0; have d1 := D2.cell 1; have d2 := D2.cell 2; simp only [List.getElem?_toArray, List.getElem?_cons_zero, List.getElem?_cons_succ] at d0 d1 d2)
     | (go_at_call 21; (refine (HZ.out _).mono ?_); rintro e' w3 ⟨rfl, hb⟩; have HB3 := bl_trans HB2 hb; have X3 := X2.call hb; have D3 := D2.call hb; have BR3 := BR2.call hb; have hx3 := D3.lt; clear hb a0 a1 a2 a3 d0 d1 d2; obtain ⟨⟨a0, a1, a2, a3⟩, _⟩ := X3.c4; have d0 := D3.cell 0; have d1 := D3.cell 1; have d2 := D3.cell 2; simp only [List.getElem?_toArray, List.getElem?_cons_zero, List.getElem?_cons_succ] at d0 d1 d2)
     | (go_at_call 97; (refine (HG.out _).mono ?_); rintro e' w4 ⟨rfl, hb⟩; have HB4 := bl_trans HB3 hb; have BR4 := BR3.call hb; clear hb a0 a1 a2 a3 d0 d1 d2)
     | (refine wpList_stG rfl 32 (.tmp 6) (.tmp 80) rfl (w.heap.size + 1 + 1) _ #[.i r.k, .b r.n, .u r.m, .i r.e] BR4 rfl rfl (by kernel_rfl) rfl (by simp [Value.oneCell']) ?_; intro W5 B5 P5; have HB5 := P5.bel HB4 (by omega)))
    exact bodyPost_ret (results_cell_row rfl _ _ (w.heap.size + 1 + 1) 32 _ (0, 0) _ rfl B5 Tryz.underlying32 rfl (by kernel_rfl)) rfl ⟨rfl, HB5⟩
   ·have h8 : (H2 == 0) = false := beq_eq_false_iff_ne.2 h7
    subst h6
    go_enter Tryz.func84, Tryz.ntmps84
    go_wp2_with (first
     | (go_at_call 95; (refine (HL.out _).mono ?_); rintro e' w1 ⟨rfl, hb⟩; have HB1 := bl_trans HB0 hb; have X1 := X0.call hb; have BR1 := BR0.call hb; have hx1 := X1.lt; have hx2 := BR1.lt; clear hb)
     | (refine wpList_stG rfl 125 (.tmp 7) (.tmp 22) rfl w1.heap.size _ #[.u hiz, .u loz, .b true] (Blk.new w1 _ _) rfl rfl (by kernel_rfl) rfl (by simp [Value.oneCell']) ?_; intro W2 D2 P2; have X2 := P2.blk (X1.alloc _) (by omega); have BR2 := P2.blk (BR1.alloc _) (by omega); have HB2 := P2.bel (bl_alloc HB1 _) (by omega); obtain ⟨⟨a0, a1, a2, a3⟩, _⟩ := X2.c4; have d0 := D2.cell 0; have d1 := D2.cell 1; have d2 := D2.cell 2; simp only [List.getElem?_toArray, List.getElem?_cons_zero, List.getElem?_cons_succ] at d0 d1 d2)
     | (go_at_call 21; (refine (HZ.out _).mono ?_); rintro e' w3 ⟨rfl, hb⟩; have HB3 := bl_trans HB2 hb; have X3 := X2.call hb; have D3 := D2.call hb; have BR3 := BR2.call hb; have hx3 := D3.lt; clear hb a0 a1 a2 a3 d0 d1 d2; obtain ⟨⟨a0, a1, a2, a3⟩, _⟩ := X3.c4; have d0 := D3.cell 0; have d1 := D3.cell 1; have d2 := D3.cell 2; simp only [List.getElem?_toArray, List.getElem?_cons_zero, List.getElem?_cons_succ] at d0 d1 d2)
     | (go_at_call 97; (refine (HG.out _).mono ?_); rintro e' w4 ⟨rfl, hb⟩; have HB4 := bl_trans HB3 hb; have BR4 := BR3.call hb; clear hb a0 a1 a2 a3 d0 d1 d2)
     | (refine wpList_stG rfl 32 (.tmp 6) (.tmp 80) rfl (w.heap.size + 1 + 1) _ #[.i r.k, .b r.n, .u r.m, .i r.e] BR4 rfl rfl (by kernel_rfl) rfl (by simp [Value.oneCell']) ?_; intro W5 B5 P5; have HB5 := P5.bel HB4 (by omega)))
    exact bodyPost_ret (results_cell_row rfl _ _ (w.heap.size + 1 + 1) 32 _ (0, 0) _ rfl B5 Tryz.underlying32 rfl (by kernel_rfl)) rfl ⟨rfl, HB5⟩
   ·skip
    go_enter Tryz.func84, Tryz.ntmps84
    go_wp2_with (first
     | (go_at_call 95; (refine (HL.out _).mono ?_); rintro e' w1 ⟨rfl, hb⟩; have HB1 := bl_trans HB0 hb; have X1 := X0.call hb; have BR1 := BR0.call hb; have hx1 := X1.lt; have hx2 := BR1.lt; clear hb)
     | (refine wpList_stG rfl 125 (.tmp 7) (.tmp 22) rfl w1.heap.size _ #[.u hiz, .u loz, .b false] (Blk.new w1 _ _) rfl rfl (by kernel_rfl) rfl (by simp [Value.oneCell']) ?_; intro W2 D2 P2; have X2 := P2.blk (X1.alloc _) (by omega); have BR2 := P2.blk (BR1.alloc _) (by omega); have HB2 := P2.bel (bl_alloc HB1 _) (by omega); obtain ⟨⟨a0, a1, a2, a3⟩, _⟩ := X2.c4; have d0 := D2.cell 0; have d1 := D2.cell 1; have d2 := D2.cell 2; simp only [List.getElem?_toArray, List.getElem?_cons_zero, List.getElem?_cons_succ] at d0 d1 d2)
     | (go_at_call 21; (refine (HZ.out _).mono ?_); rintro e' w3 ⟨rfl, hb⟩; have HB3 := bl_trans HB2 hb; have X3 := X2.call hb; have D3 := D2.call hb; have BR3 := BR2.call hb; have hx3 := D3.lt; clear hb a0 a1 a2 a3 d0 d1 d2; obtain ⟨⟨a0, a1, a2, a3⟩, _⟩ := X3.c4; have d0 := D3.cell 0; have d1 := D3.cell 1; have d2 := D3.cell 2; simp only [List.getElem?_toArray, List.getElem?_cons_zero, List.getElem?_cons_succ] at d0 d1 d2)
     | (go_at_call 97; (refine (HG.out _).mono ?_); rintro e' w4 ⟨rfl, hb⟩; have HB4 := bl_trans HB3 hb; have BR4 := BR3.call hb; clear hb a0 a1 a2 a3 d0 d1 d2)
     | (refine wpList_stG rfl 32 (.tmp 6) (.tmp 80) rfl (w.heap.size + 1 + 1) _ #[.i r.k, .b r.n, .u r.m, .i r.e] BR4 rfl rfl (by kernel_rfl) rfl (by simp [Value.oneCell']) ?_; intro W5 B5 P5; have HB5 := P5.bel HB4 (by omega)))
    exact bodyPost_ret (results_cell_row rfl _ _ (w.heap.size + 1 + 1) 32 _ (0, 0) _ rfl B5 Tryz.underlying32 rfl (by kernel_rfl)) rfl ⟨rfl, HB5⟩
   ·have h8 : (H2 == 0) = false := beq_eq_false_iff_ne.2 h7
    subst h6
    go_enter Tryz.func84, Tryz.ntmps84
    go_wp2_with (first
     | (go_at_call 95; (refine (HL.out _).mono ?_); rintro e' w1 ⟨rfl, hb⟩; have HB1 := bl_trans HB0 hb; have X1 := X0.call hb; have BR1 := BR0.call hb; have hx1 := X1.lt; have hx2 := BR1.lt; clear hb)
     | (refine wpList_stG rfl 125 (.tmp 7) (.tmp 22) rfl w1.heap.size _ #[.u hiz, .u loz, .b false] (Blk.new w1 _ _) rfl rfl (by kernel_rfl) rfl (by simp [Value.oneCell']) ?_; intro W2 D2 P2; have X2 := P2.blk (X1.alloc _) (by omega); have BR2 := P2.blk (BR1.alloc _) (by omega); have HB2 := P2.bel (bl_alloc HB1 _) (by omega); obtain ⟨⟨a0, a1, a2, a3⟩, _⟩ := X2.c4; have d0 := D2.cell 0; have d1 := D2.cell 1; have d2 := D2.cell 2; simp only [List.getElem?_toArray, List.getElem?_cons_zero, List.getElem?_cons_succ] at d0 d1 d2)
     | (go_at_call 21; (refine (HZ.out _).mono ?_); rintro e' w3 ⟨rfl, hb⟩; have HB3 := bl_trans HB2 hb; have X3 := X2.call hb; have D3 := D2.call hb; have BR3 := BR2.call hb; have hx3 := D3.lt; clear hb a0 a1 a2 a3 d0 d1 d2; obtain ⟨⟨a0, a1, a2, a3⟩, _⟩ := X3.c4; have d0 := D3.cell 0; have d1 := D3.cell 1; have d2 := D3.cell 2; simp only [List.getElem?_toArray, List.getElem?_cons_zero, List.getElem?_cons_succ] at d0 d1 d2)
     | (go_at_call 97; (refine (HG.out _).mono ?_); rintro e' w4 ⟨rfl, hb⟩; have HB4 := bl_trans HB3 hb; have BR4 := BR3.call hb; clear hb a0 a1 a2 a3 d0 d1 d2)
     | (refine wpList_stG rfl 32 (.tmp 6) (.tmp 80) rfl (w.heap.size + 1 + 1) _ #[.i r.k, .b r.n, .u r.m, .i r.e] BR4 rfl rfl (by kernel_rfl) rfl (by simp [Value.oneCell']) ?_; intro W5 B5 P5; have HB5 := P5.bel HB4 (by omega)))
    exact bodyPost_ret (results_cell_row rfl _ _ (w.heap.size + 1 + 1) 32 _ (0, 0) _ rfl B5 Tryz.underlying32 rfl (by kernel_rfl)) rfl ⟨rfl, HB5⟩
  ·have hcut1 : cut = true := by rw [hcut]; simp [hz]
   subst hcut1
   rcases hH with ⟨h5, h6, h7, h8⟩ | ⟨h7, rfl, rfl, rfl⟩
   ·exact absurd h7 hz
   ·have h8 : (H2 == 0) = false := beq_eq_false_iff_ne.2 h7
    have h9 : (L2 != 0) = true := bne_iff_ne.2 hz
    clear hcut
    rcases hlz with ⟨rfl, rfl⟩ | ⟨rfl, rfl⟩
    ·skip
     go_enter Tryz.func84, Tryz.ntmps84
     go_wp2_with (first
      | (go_at_call 95; (refine (HL.out _).mono ?_); rintro e' w1 ⟨rfl, hb⟩; have HB1 := bl_trans HB0 hb; have X1 := X0.call hb; have BR1 := BR0.call hb; have hx1 := X1.lt; have hx2 := BR1.lt; clear hb)
      | (refine wpList_stG rfl 125 (.tmp 7) (.tmp 22) rfl w1.heap.size _ #[.u hiz, .u loz, .b true] (Blk.new w1 _ _) rfl rfl (by kernel_rfl) rfl (by simp [Value.oneCell']) ?_; intro W2 D2 P2; have X2 := P2.blk (X1.alloc _) (by omega); have BR2 := P2.blk (BR1.alloc _) (by omega); have HB2 := P2.bel (bl_alloc HB1 _) (by omega); obtain ⟨⟨a0, a1, a2, a3⟩, _⟩ := X2.c4; have d0 := D2.cell 0; have d1 := D2.cell 1; have d2 := D2.cell 2; simp only [List.getElem?_toArray, List.getElem?_cons_zero, List.getElem?_cons_succ] at d0 d1 d2)
      | (go_at_call 21; (refine (HZ.out _).mono ?_); rintro e' w3 ⟨rfl, hb⟩; have HB3 := bl_trans HB2 hb; have X3 := X2.call hb; have D3 := D2.call hb; have BR3 := BR2.call hb; have hx3 := D3.lt; clear hb a0 a1 a2 a3 d0 d1 d2; obtain ⟨⟨a0, a1, a2, a3⟩, _⟩ := X3.c4; have d0 := D3.cell 0; have d1 := D3.cell 1; have d2 := D3.cell 2; simp only [List.getElem?_toArray, List.getElem?_cons_zero, List.getElem?_cons_succ] at d0 d1 d2)
      | (go_at_call 97; (refine (HG.out _).mono ?_); rintro e' w4 ⟨rfl, hb⟩; have HB4 := bl_trans HB3 hb; have BR4 := BR3.call hb; clear hb a0 a1 a2 a3 d0 d1 d2)
      | (refine wpList_stG rfl 32 (.tmp 6) (.tmp 80) rfl (w.heap.size + 1 + 1) _ #[.i r.k, .b r.n, .u r.m, .i r.e] BR4 rfl rfl (by kernel_rfl) rfl (by simp [Value.oneCell']) ?_; intro W5 B5 P5; have HB5 := P5.bel HB4 (by omega)))
     exact bodyPost_ret (results_cell_row rfl _ _ (w.heap.size + 1 + 1) 32 _ (0, 0) _ rfl B5 Tryz.underlying32 rfl (by kernel_rfl)) rfl ⟨rfl, HB5⟩
    ·skip
     go_enter Tryz.func84, Tryz.ntmps84
     go_wp2_with (first
      | (go_at_call 95; (refine (HL.out _).mono ?_); rintro e' w1 ⟨rfl, hb⟩; have HB1 := bl_trans HB0 hb; have X1 := X0.call hb; have BR1 := BR0.call hb; have hx1 := X1.lt; have hx2 := BR1.lt; clear hb)
      | (refine wpList_stG rfl 125 (.tmp 7) (.tmp 22) rfl w1.heap.size _ #[.u hiz, .u loz, .b false] (Blk.new w1 _ _) rfl rfl (by kernel_rfl) rfl (by simp [Value.oneCell']) ?_; intro W2 D2 P2; have X2 := P2.blk (X1.alloc _) (by omega); have BR2 := P2.blk (BR1.alloc _) (by omega); have HB2 := P2.bel (bl_alloc HB1 _) (by omega); obtain ⟨⟨a0, a1, a2, a3⟩, _⟩ := X2.c4; have d0 := D2.cell 0; have d1 := D2.cell 1; have d2 := D2.cell 2; simp only [List.getElem?_toArray, List.getElem?_cons_zero, List.getElem?_cons_succ] at d0 d1 d2)
      | (go_at_call 21; (refine (HZ.out _).mono ?_); rintro e' w3 ⟨rfl, hb⟩; have HB3 := bl_trans HB2 hb; have X3 := X2.call hb; have D3 := D2.call hb; have BR3 := BR2.call hb; have hx3 := D3.lt; clear hb a0 a1 a2 a3 d0 d1 d2; obtain ⟨⟨a0, a1, a2, a3⟩, _⟩ := X3.c4; have d0 := D3.cell 0; have d1 := D3.cell 1; have d2 := D3.cell 2; simp only [List.getElem?_toArray, List.getElem?_cons_zero, List.getElem?_cons_succ] at d0 d1 d2)
      | (go_at_call 97; (refine (HG.out _).mono ?_); rintro e' w4 ⟨rfl, hb⟩; have HB4 := bl_trans HB3 hb; have BR4 := BR3.call hb; clear hb a0 a1 a2 a3 d0 d1 d2)
      | (refine wpList_stG rfl 32 (.tmp 6) (.tmp 80) rfl (w.heap.size + 1 + 1) _ #[.i r.k, .b r.n, .u r.m, .i r.e] BR4 rfl rfl (by kernel_rfl) rfl (by simp [Value.oneCell']) ?_; intro W5 B5 P5; have HB5 := P5.bel HB4 (by omega)))
     exact bodyPost_ret (results_cell_row rfl _ _ (w.heap.size + 1 + 1) 32 _ (0, 0) _ rfl B5 Tryz.underlying32 rfl (by kernel_rfl)) rfl ⟨rfl, HB5⟩
 ·have hu1 : 0 < u := by omega
  have hB' := hB hu1
  have hor' := hor hu1
  have hui : (0 : Int) < (u : Int) := by omega
  have hui2 : (u : Int) < 64 := by omega
  have hw : IntKind.i64.wrap (64 - (u : Int)) = ((64 - u : Nat) : Int) := by rw [wrap_i (by omega) (by omega)]; omega
  clear h0 hB hor hu0
  rcases hH with ⟨rfl, rfl, rfl, rfl⟩ | ⟨h7, rfl, rfl, rfl⟩
  ·have hwf : IntKind.i64.wrap (ea - 64 - (u : Int)) = f := by rw [hf, wrap_i (by omega) (by omega)]
   have hB0 : B = 0 := by rw [← hB']; simp
   have hL0 : L2 = 0 := by rw [← hL2]; simp [wrap_u]
   subst hB0
   subst hL0
   rw [show decide ((0 : Int) ≠ 0) = false from rfl, Bool.or_false] at hcut
   subst hcut
   have hw0 : IntKind.u64.wrap 0 = 0 := rfl
   clear hB' hL2 hf
   rcases hlz with ⟨rfl, rfl⟩ | ⟨rfl, rfl⟩
   ·skip
    go_enter Tryz.func84, Tryz.ntmps84
    go_wp2_with (first
     | (go_at_call 95; (refine (HL.out _).mono ?_); rintro e' w1 ⟨rfl, hb⟩; have HB1 := bl_trans HB0 hb; have X1 := X0.call hb; have BR1 := BR0.call hb; have hx1 := X1.lt; have hx2 := BR1.lt; clear hb)
     | (refine wpList_stG rfl 125 (.tmp 7) (.tmp 22) rfl w1.heap.size _ #[.u hiz, .u loz, .b true] (Blk.new w1 _ _) rfl rfl (by kernel_rfl) rfl (by simp [Value.oneCell']) ?_; intro W2 D2 P2; have X2 := P2.blk (X1.alloc _) (by omega); have BR2 := P2.blk (BR1.alloc _) (by omega); have HB2 := P2.bel (bl_alloc HB1 _) (by omega); obtain ⟨⟨a0, a1, a2, a3⟩, _⟩ := X2.c4; have d0 := D2.cell 0; have d1 := D2.cell 1; have d2 := D2.cell 2; simp only [List.getElem?_toArray, List.getElem?_cons_zero, List.getElem?_cons_succ] at d0 d1 d2)
     | (go_at_call 21; (refine (HZ.out _).mono ?_); rintro e' w3 ⟨rfl, hb⟩; have HB3 := bl_trans HB2 hb; have X3 := X2.call hb; have D3 := D2.call hb; have BR3 := BR2.call hb; have hx3 := D3.lt; clear hb a0 a1 a2 a3 d0 d1 d2; obtain ⟨⟨a0, a1, a2, a3⟩, _⟩ := X3.c4; have d0 := D3.cell 0; have d1 := D3.cell 1; have d2 := D3.cell 2; simp only [List.getElem?_toArray, List.getElem?_cons_zero, List.getElem?_cons_succ] at d0 d1 d2)
     | (go_at_call 97; (refine (HG.out _).mono ?_); rintro e' w4 ⟨rfl, hb⟩; have HB4 := bl_trans HB3 hb; have BR4 := BR3.call hb; clear hb a0 a1 a2 a3 d0 d1 d2)
     | (refine wpList_stG rfl 32 (.tmp 6) (.tmp 80) rfl (w.heap.size + 1 + 1) _ #[.i r.k, .b r.n, .u r.m, .i r.e] BR4 rfl rfl (by kernel_rfl) rfl (by simp [Value.oneCell']) ?_; intro W5 B5 P5; have HB5 := P5.bel HB4 (by omega)))
    replace HB3 := bl_drew HB3
    replace BR3 := BR3.drew
    have a0' : w3.drew.cell? _ = _ := a0
    have a1' : w3.drew.cell? _ = _ := a1
    have a2' : w3.drew.cell? _ = _ := a2
    have a3' : w3.drew.cell? _ = _ := a3
    have d0' : w3.drew.cell? _ = _ := d0
    have d1' : w3.drew.cell? _ = _ := d1
    have d2' : w3.drew.cell? _ = _ := d2
    clear a0 a1 a2 a3 d0 d1 d2
    refine start_ (n := 17) (S := fun w' => True) (ds := []) (bq 17 0) (by kernel_rfl) rfl rfl trivial (fun hHeld => ?_)
    generalize w3.drew = W3 at HB3 BR3 a0' a1' a2' a3' d0' d1' d2' ⊢
    refine pu 0 52 (bq 17 1) ?_ ?_ (fun _ => ?_) ?_ ?_
    rotate_left 2
    ·go_simp
     with_reducible rfl
    ·simp only [Act.put, pA, pB, pC]
     rfl
    refine pu 1 53 (bq 17 3) ?_ ?_ (fun _ => ?_) ?_ ?_
    rotate_left 2
    ·go_simp
     with_reducible rfl
    ·simp only [Act.put, pA, pB, pC]
     rfl
    refine pu 2 54 (bq 17 7) ?_ ?_ (fun _ => ?_) ?_ ?_
    rotate_left 2
    ·go_simp
     with_reducible rfl
    ·simp only [Act.put, pA, pB, pC]
     rfl
    refine pu 3 55 (bq 17 15) ?_ ?_ (fun _ => ?_) ?_ ?_
    rotate_left 2
    ·go_simp
     with_reducible rfl
    ·simp only [Act.put, pA, pB, pC]
     rfl
    refine pu 4 56 (bq 17 31) ?_ ?_ (fun _ => ?_) ?_ ?_
    rotate_left 2
    ·go_simp
     with_reducible rfl
    ·simp only [Act.put, pA, pB, pC]
     rfl
    refine pu 5 57 (bq 17 63) ?_ ?_ (fun _ => ?_) ?_ ?_
    rotate_left 2
    ·go_simp
     with_reducible rfl
    ·simp only [Act.put, pA, pB, pC]
     rfl
    refine pu 6 58 (bq 17 127) ?_ ?_ (fun _ => ?_) ?_ ?_
    rotate_left 2
    ·go_simp
     with_reducible rfl
    ·simp only [Act.put, pA, pB, pC]
     rfl
    refine pu 7 59 (bq 17 255) ?_ ?_ (fun _ => ?_) ?_ ?_
    rotate_left 2
    ·go_simp
     with_reducible rfl
    ·simp only [Act.put, pA, pB, pC]
     rfl
    refine pu 8 60 (bq 17 511) ?_ ?_ (fun _ => ?_) ?_ ?_
    rotate_left 2
    ·go_simp
     with_reducible rfl
    ·simp only [Act.put, pA, pB, pC]
     rfl
    refine pu 9 61 (bq 17 1023) ?_ ?_ (fun _ => ?_) ?_ ?_
    rotate_left 2
    ·go_simp
     with_reducible rfl
    ·simp only [Act.put, pA, pB, pC]
     rfl
    refine pu 10 62 (bq 17 2047) ?_ ?_ (fun _ => ?_) ?_ ?_
    rotate_left 2
    ·go_simp
     with_reducible rfl
    ·simp only [Act.put, pA, pB, pC]
     rfl
    refine pu 11 63 (bq 17 4095) ?_ ?_ (fun _ => ?_) ?_ ?_
    rotate_left 2
    ·go_simp
     with_reducible rfl
    ·simp only [Act.put, pA, pB, pC]
     rfl
    refine pu 12 64 (bq 17 8191) ?_ ?_ (fun _ => ?_) ?_ ?_
    rotate_left 2
    ·go_simp
     with_reducible rfl
    ·simp only [Act.put, pA, pB, pC]
     rfl
    refine pu 13 65 (bq 17 16383) ?_ ?_ (fun _ => ?_) ?_ ?_
    rotate_left 2
    ·go_simp
     with_reducible rfl
    ·simp only [Act.put, pA, pB, pC]
     rfl
    refine pu 14 11 (bq 17 32767) ?_ ?_ (fun _ => ?_) ?_ ?_
    rotate_left 2
    ·go_simp
     with_reducible rfl
    ·simp only [Act.put, pA, pB, pC]
     rfl
    refine pu 15 9 (bq 17 65535) ?_ ?_ (fun _ => ?_) ?_ ?_
    rotate_left 2
    ·go_simp
     with_reducible rfl
    ·simp only [Act.put, pA, pB, pC]
     rfl
    refine pu 16 13 (bq 17 131071) ?_ ?_ (fun _ => ?_) ?_ ?_
    rotate_left 2
    ·go_simp
     with_reducible rfl
    ·simp only [Act.put, pA, pB, pC]
     rfl
    refine done_ (by kernel_rfl) ?_
    go_wp2_with (first
     | (go_at_call 97; (refine (HG.out _).mono ?_); rintro e' w4 ⟨rfl, hb⟩; have HB4 := bl_trans HB3 hb; have BR4 := BR3.call hb; clear hb a0' a1' a2' a3' d0' d1' d2')
     | (refine wpList_stG rfl 32 (.tmp 6) (.tmp 80) rfl (w.heap.size + 1 + 1) _ #[.i r.k, .b r.n, .u r.m, .i r.e] BR4 rfl rfl (by kernel_rfl) rfl (by simp [Value.oneCell']) ?_; intro W5 B5 P5; have HB5 := P5.bel HB4 (by omega)))
    exact bodyPost_ret (results_cell_row rfl _ _ (w.heap.size + 1 + 1) 32 _ (0, 0) _ rfl B5 Tryz.underlying32 rfl (by kernel_rfl)) rfl ⟨rfl, HB5⟩
   ·skip
    go_enter Tryz.func84, Tryz.ntmps84
    go_wp2_with (first
     | (go_at_call 95; (refine (HL.out _).mono ?_); rintro e' w1 ⟨rfl, hb⟩; have HB1 := bl_trans HB0 hb; have X1 := X0.call hb; have BR1 := BR0.call hb; have hx1 := X1.lt; have hx2 := BR1.lt; clear hb)
     | (refine wpList_stG rfl 125 (.tmp 7) (.tmp 22) rfl w1.heap.size _ #[.u hiz, .u loz, .b false] (Blk.new w1 _ _) rfl rfl (by kernel_rfl) rfl (by simp [Value.oneCell']) ?_; intro W2 D2 P2; have X2 := P2.blk (X1.alloc _) (by omega); have BR2 := P2.blk (BR1.alloc _) (by omega); have HB2 := P2.bel (bl_alloc HB1 _) (by omega); obtain ⟨⟨a0, a1, a2, a3⟩, _⟩ := X2.c4; have d0 := D2.cell 0; have d1 := D2.cell 1; have d2 := D2.cell 2; simp only [List.getElem?_toArray, List.getElem?_cons_zero, List.getElem?_cons_succ] at d0 d1 d2)
     | (go_at_call 21; (refine (HZ.out _).mono ?_); rintro e' w3 ⟨rfl, hb⟩; have HB3 := bl_trans HB2 hb; have X3 := X2.call hb; have D3 := D2.call hb; have BR3 := BR2.call hb; have hx3 := D3.lt; clear hb a0 a1 a2 a3 d0 d1 d2; obtain ⟨⟨a0, a1, a2, a3⟩, _⟩ := X3.c4; have d0 := D3.cell 0; have d1 := D3.cell 1; have d2 := D3.cell 2; simp only [List.getElem?_toArray, List.getElem?_cons_zero, List.getElem?_cons_succ] at d0 d1 d2)
     | (go_at_call 97; (refine (HG.out _).mono ?_); rintro e' w4 ⟨rfl, hb⟩; have HB4 := bl_trans HB3 hb; have BR4 := BR3.call hb; clear hb a0 a1 a2 a3 d0 d1 d2)
     | (refine wpList_stG rfl 32 (.tmp 6) (.tmp 80) rfl (w.heap.size + 1 + 1) _ #[.i r.k, .b r.n, .u r.m, .i r.e] BR4 rfl rfl (by kernel_rfl) rfl (by simp [Value.oneCell']) ?_; intro W5 B5 P5; have HB5 := P5.bel HB4 (by omega)))
    replace HB3 := bl_drew HB3
    replace BR3 := BR3.drew
    have a0' : w3.drew.cell? _ = _ := a0
    have a1' : w3.drew.cell? _ = _ := a1
    have a2' : w3.drew.cell? _ = _ := a2
    have a3' : w3.drew.cell? _ = _ := a3
    have d0' : w3.drew.cell? _ = _ := d0
    have d1' : w3.drew.cell? _ = _ := d1
    have d2' : w3.drew.cell? _ = _ := d2
    clear a0 a1 a2 a3 d0 d1 d2
    refine start_ (n := 17) (S := fun w' => True) (ds := []) (bq 17 0) (by kernel_rfl) rfl rfl trivial (fun hHeld => ?_)
    generalize w3.drew = W3 at HB3 BR3 a0' a1' a2' a3' d0' d1' d2' ⊢
    refine pu 0 52 (bq 17 1) ?_ ?_ (fun _ => ?_) ?_ ?_
    rotate_left 2
    ·go_simp
     with_reducible rfl
    ·simp only [Act.put, pA, pB, pC]
     rfl
    refine pu 1 53 (bq 17 3) ?_ ?_ (fun _ => ?_) ?_ ?_
    rotate_left 2
    ·go_simp
     with_reducible rfl
    ·simp only [Act.put, pA, pB, pC]
     rfl
    refine pu 2 54 (bq 17 7) ?_ ?_ (fun _ => ?_) ?_ ?_
    rotate_left 2
    ·go_simp
     with_reducible rfl
    ·simp only [Act.put, pA, pB, pC]
     rfl
    refine pu 3 55 (bq 17 15) ?_ ?_ (fun _ => ?_) ?_ ?_
    rotate_left 2
    ·go_simp
     with_reducible rfl
    ·simp only [Act.put, pA, pB, pC]
     rfl
    refine pu 4 56 (bq 17 31) ?_ ?_ (fun _ => ?_) ?_ ?_
    rotate_left 2
    ·go_simp
     with_reducible rfl
    ·simp only [Act.put, pA, pB, pC]
     rfl
    refine pu 5 57 (bq 17 63) ?_ ?_ (fun _ => ?_) ?_ ?_
    rotate_left 2
    ·go_simp
     with_reducible rfl
    ·simp only [Act.put, pA, pB, pC]
     rfl
    refine pu 6 58 (bq 17 127) ?_ ?_ (fun _ => ?_) ?_ ?_
    rotate_left 2
    ·go_simp
     with_reducible rfl
    ·simp only [Act.put, pA, pB, pC]
     rfl
    refine pu 7 59 (bq 17 255) ?_ ?_ (fun _ => ?_) ?_ ?_
    rotate_left 2
    ·go_simp
     with_reducible rfl
    ·simp only [Act.put, pA, pB, pC]
     rfl
    refine pu 8 60 (bq 17 511) ?_ ?_ (fun _ => ?_) ?_ ?_
    rotate_left 2
    ·go_simp
     with_reducible rfl
    ·simp only [Act.put, pA, pB, pC]
     rfl
    refine pu 9 61 (bq 17 1023) ?_ ?_ (fun _ => ?_) ?_ ?_
    rotate_left 2
    ·go_simp
     with_reducible rfl
    ·simp only [Act.put, pA, pB, pC]
     rfl
    refine pu 10 62 (bq 17 2047) ?_ ?_ (fun _ => ?_) ?_ ?_
    rotate_left 2
    ·go_simp
     with_reducible rfl
    ·simp only [Act.put, pA, pB, pC]
     rfl
    refine pu 11 63 (bq 17 4095) ?_ ?_ (fun _ => ?_) ?_ ?_
    rotate_left 2
    ·go_simp
     with_reducible rfl
    ·simp only [Act.put, pA, pB, pC]
     rfl
    refine pu 12 64 (bq 17 8191) ?_ ?_ (fun _ => ?_) ?_ ?_
    rotate_left 2
    ·go_simp
     with_reducible rfl
    ·simp only [Act.put, pA, pB, pC]
     rfl
    refine pu 13 65 (bq 17 16383) ?_ ?_ (fun _ => ?_) ?_ ?_
    rotate_left 2
    ·go_simp
     with_reducible rfl
    ·simp only [Act.put, pA, pB, pC]
     rfl
    refine pu 14 11 (bq 17 32767) ?_ ?_ (fun _ => ?_) ?_ ?_
    rotate_left 2
    ·go_simp
     with_reducible rfl
    ·simp only [Act.put, pA, pB, pC]
     rfl
    refine pu 15 9 (bq 17 65535) ?_ ?_ (fun _ => ?_) ?_ ?_
    rotate_left 2
    ·go_simp
     with_reducible rfl
    ·simp only [Act.put, pA, pB, pC]
     rfl
    refine pu 16 13 (bq 17 131071) ?_ ?_ (fun _ => ?_) ?_ ?_
    rotate_left 2
    ·go_simp
     with_reducible rfl
    ·simp only [Act.put, pA, pB, pC]
     rfl
    refine done_ (by kernel_rfl) ?_
    go_wp2_with (first
     | (go_at_call 97; (refine (HG.out _).mono ?_); rintro e' w4 ⟨rfl, hb⟩; have HB4 := bl_trans HB3 hb; have BR4 := BR3.call hb; clear hb a0' a1' a2' a3' d0' d1' d2')
     | (refine wpList_stG rfl 32 (.tmp 6) (.tmp 80) rfl (w.heap.size + 1 + 1) _ #[.i r.k, .b r.n, .u r.m, .i r.e] BR4 rfl rfl (by kernel_rfl) rfl (by simp [Value.oneCell']) ?_; intro W5 B5 P5; have HB5 := P5.bel HB4 (by omega)))
    exact bodyPost_ret (results_cell_row rfl _ _ (w.heap.size + 1 + 1) 32 _ (0, 0) _ rfl B5 Tryz.underlying32 rfl (by kernel_rfl)) rfl ⟨rfl, HB5⟩
  ·have h8 : (H1 == 0) = false := beq_eq_false_iff_ne.2 h7
   have hwf : IntKind.i64.wrap (e1 - (u : Int)) = f := by rw [hf, wrap_i (by omega) (by omega)]
   clear hf
   by_cases hz : L2 = 0
   ·subst hz
    rw [show decide ((0 : Int) ≠ 0) = false from rfl, Bool.or_false] at hcut
    subst hcut
    rcases hlz with ⟨rfl, rfl⟩ | ⟨rfl, rfl⟩
    ·skip
     go_enter Tryz.func84, Tryz.ntmps84
     go_wp2_with (first
      | (go_at_call 95; (refine (HL.out _).mono ?_); rintro e' w1 ⟨rfl, hb⟩; have HB1 := bl_trans HB0 hb; have X1 := X0.call hb; have BR1 := BR0.call hb; have hx1 := X1.lt; have hx2 := BR1.lt; clear hb)
      | (refine wpList_stG rfl 125 (.tmp 7) (.tmp 22) rfl w1.heap.size _ #[.u hiz, .u loz, .b true] (Blk.new w1 _ _) rfl rfl (by kernel_rfl) rfl (by simp [Value.oneCell']) ?_; intro W2 D2 P2; have X2 := P2.blk (X1.alloc _) (by omega); have BR2 := P2.blk (BR1.alloc _) (by omega); have HB2 := P2.bel (bl_alloc HB1 _) (by omega); obtain ⟨⟨a0, a1, a2, a3⟩, _⟩ := X2.c4; have d0 := D2.cell 0; have d1 := D2.cell 1; have d2 := D2.cell 2; simp only [List.getElem?_toArray, List.getElem?_cons_zero, List.getElem?_cons_succ] at d0 d1 d2)
      | (go_at_call 21; (refine (HZ.out _).mono ?_); rintro e' w3 ⟨rfl, hb⟩; have HB3 := bl_trans HB2 hb; have X3 := X2.call hb; have D3 := D2.call hb; have BR3 := BR2.call hb; have hx3 := D3.lt; clear hb a0 a1 a2 a3 d0 d1 d2; obtain ⟨⟨a0, a1, a2, a3⟩, _⟩ := X3.c4; have d0 := D3.cell 0; have d1 := D3.cell 1; have d2 := D3.cell 2; simp only [List.getElem?_toArray, List.getElem?_cons_zero, List.getElem?_cons_succ] at d0 d1 d2)
      | (go_at_call 97; (refine (HG.out _).mono ?_); rintro e' w4 ⟨rfl, hb⟩; have HB4 := bl_trans HB3 hb; have BR4 := BR3.call hb; clear hb a0 a1 a2 a3 d0 d1 d2)
      | (refine wpList_stG rfl 32 (.tmp 6) (.tmp 80) rfl (w.heap.size + 1 + 1) _ #[.i r.k, .b r.n, .u r.m, .i r.e] BR4 rfl rfl (by kernel_rfl) rfl (by simp [Value.oneCell']) ?_; intro W5 B5 P5; have HB5 := P5.bel HB4 (by omega)))
     replace HB3 := bl_drew HB3
     replace BR3 := BR3.drew
     have a0' : w3.drew.cell? _ = _ := a0
     have a1' : w3.drew.cell? _ = _ := a1
     have a2' : w3.drew.cell? _ = _ := a2
     have a3' : w3.drew.cell? _ = _ := a3
     have d0' : w3.drew.cell? _ = _ := d0
     have d1' : w3.drew.cell? _ = _ := d1
     have d2' : w3.drew.cell? _ = _ := d2
     clear a0 a1 a2 a3 d0 d1 d2
     refine start_ (n := 17) (S := fun w' => True) (ds := []) (bq 17 0) (by kernel_rfl) rfl rfl trivial (fun hHeld => ?_)
     generalize w3.drew = W3 at HB3 BR3 a0' a1' a2' a3' d0' d1' d2' ⊢
     refine pu 0 52 (bq 17 1) ?_ ?_ (fun _ => ?_) ?_ ?_
     rotate_left 2
     ·go_simp
      with_reducible rfl
     ·simp only [Act.put, pA, pB, pC]
      rfl
     refine pu 1 53 (bq 17 3) ?_ ?_ (fun _ => ?_) ?_ ?_
     rotate_left 2
     ·go_simp
      with_reducible rfl
     ·simp only [Act.put, pA, pB, pC]
      rfl
     refine pu 2 54 (bq 17 7) ?_ ?_ (fun _ => ?_) ?_ ?_
     rotate_left 2
     ·go_simp
      with_reducible rfl
     ·simp only [Act.put, pA, pB, pC]
      rfl
     refine pu 3 55 (bq 17 15) ?_ ?_ (fun _ => ?_) ?_ ?_
     rotate_left 2
     ·go_simp
      with_reducible rfl
     ·simp only [Act.put, pA, pB, pC]
      rfl
     refine pu 4 56 (bq 17 31) ?_ ?_ (fun _ => ?_) ?_ ?_
     rotate_left 2
     ·go_simp
      with_reducible rfl
     ·simp only [Act.put, pA, pB, pC]
      rfl
     refine pu 5 57 (bq 17 63) ?_ ?_ (fun _ => ?_) ?_ ?_
     rotate_left 2
     ·go_simp
      with_reducible rfl
     ·simp only [Act.put, pA, pB, pC]
      rfl
     refine pu 6 58 (bq 17 127) ?_ ?_ (fun _ => ?_) ?_ ?_
     rotate_left 2
     ·go_simp
      with_reducible rfl
     ·simp only [Act.put, pA, pB, pC]
      rfl
     refine pu 7 59 (bq 17 255) ?_ ?_ (fun _ => ?_) ?_ ?_
     rotate_left 2
     ·go_simp
      with_reducible rfl
     ·simp only [Act.put, pA, pB, pC]
      rfl
     refine pu 8 60 (bq 17 511) ?_ ?_ (fun _ => ?_) ?_ ?_
     rotate_left 2
     ·go_simp
      with_reducible rfl
     ·simp only [Act.put, pA, pB, pC]
      rfl
     refine pu 9 61 (bq 17 1023) ?_ ?_ (fun _ => ?_) ?_ ?_
     rotate_left 2
     ·go_simp
      with_reducible rfl
     ·simp only [Act.put, pA, pB, pC]
      rfl
     refine pu 10 62 (bq 17 2047) ?_ ?_ (fun _ => ?_) ?_ ?_
     rotate_left 2
     ·go_simp
      with_reducible rfl
     ·simp only [Act.put, pA, pB, pC]
      rfl
     refine pu 11 63 (bq 17 4095) ?_ ?_ (fun _ => ?_) ?_ ?_
     rotate_left 2
     ·go_simp
      with_reducible rfl
     ·simp only [Act.put, pA, pB, pC]
      rfl
     refine pu 12 64 (bq 17 8191) ?_ ?_ (fun _ => ?_) ?_ ?_
     rotate_left 2
     ·go_simp
      with_reducible rfl
     ·simp only [Act.put, pA, pB, pC]
      rfl
     refine pu 13 65 (bq 17 16383) ?_ ?_ (fun _ => ?_) ?_ ?_
     rotate_left 2
     ·go_simp
      with_reducible rfl
     ·simp only [Act.put, pA, pB, pC]
      rfl
     refine pu 14 11 (bq 17 32767) ?_ ?_ (fun _ => ?_) ?_ ?_
     rotate_left 2
     ·go_simp
      with_reducible rfl
     ·simp only [Act.put, pA, pB, pC]
      rfl
     refine pu 15 9 (bq 17 65535) ?_ ?_ (fun _ => ?_) ?_ ?_
     rotate_left 2
     ·go_simp
      with_reducible rfl
     ·simp only [Act.put, pA, pB, pC]
      rfl
     refine pu 16 13 (bq 17 131071) ?_ ?_ (fun _ => ?_) ?_ ?_
     rotate_left 2
     ·go_simp
      with_reducible rfl
     ·simp only [Act.put, pA, pB, pC]
      rfl
     refine done_ (by kernel_rfl) ?_
     go_wp2_with (first
      | (go_at_call 97; (refine (HG.out _).mono ?_); rintro e' w4 ⟨rfl, hb⟩; have HB4 := bl_trans HB3 hb; have BR4 := BR3.call hb; clear hb a0' a1' a2' a3' d0' d1' d2')
      | (refine wpList_stG rfl 32 (.tmp 6) (.tmp 80) rfl (w.heap.size + 1 + 1) _ #[.i r.k, .b r.n, .u r.m, .i r.e] BR4 rfl rfl (by kernel_rfl) rfl (by simp [Value.oneCell']) ?_; intro W5 B5 P5; have HB5 := P5.bel HB4 (by omega)))
     exact bodyPost_ret (results_cell_row rfl _ _ (w.heap.size + 1 + 1) 32 _ (0, 0) _ rfl B5 Tryz.underlying32 rfl (by kernel_rfl)) rfl ⟨rfl, HB5⟩
    ·skip
     go_enter Tryz.func84, Tryz.ntmps84
     go_wp2_with (first
      | (go_at_call 95; (refine (HL.out _).mono ?_); rintro e' w1 ⟨rfl, hb⟩; have HB1 := bl_trans HB0 hb; have X1 := X0.call hb; have BR1 := BR0.call hb; have hx1 := X1.lt; have hx2 := BR1.lt; clear hb)
      | (refine wpList_stG rfl 125 (.tmp 7) (.tmp 22) rfl w1.heap.size _ #[.u hiz, .u loz, .b false] (Blk.new w1 _ _) rfl rfl (by kernel_rfl) rfl (by simp [Value.oneCell']) ?_; intro W2 D2 P2; have X2 := P2.blk (X1.alloc _) (by omega); have BR2 := P2.blk (BR1.alloc _) (by omega); have HB2 := P2.bel (bl_alloc HB1 _) (by omega); obtain ⟨⟨a0, a1, a2, a3⟩, _⟩ := X2.c4; have d0 := D2.cell 0; have d1 := D2.cell 1; have d2 := D2.cell 2; simp only [List.getElem?_toArray, List.getElem?_cons_zero, List.getElem?_cons_succ] at d0 d1 d2)
      | (go_at_call 21; (refine (HZ.out _).mono ?_); rintro e' w3 ⟨rfl, hb⟩; have HB3 := bl_trans HB2 hb; have X3 := X2.call hb; have D3 := D2.call hb; have BR3 := BR2.call hb; have hx3 := D3.lt; clear hb a0 a1 a2 a3 d0 d1 d2; obtain ⟨⟨a0, a1, a2, a3⟩, _⟩ := X3.c4; have d0 := D3.cell 0; have d1 := D3.cell 1; have d2 := D3.cell 2; simp only [List.getElem?_toArray, List.getElem?_cons_zero, List.getElem?_cons_succ] at d0 d1 d2)
      | (go_at_call 97; (refine (HG.out _).mono ?_); rintro e' w4 ⟨rfl, hb⟩; have HB4 := bl_trans HB3 hb; have BR4 := BR3.call hb; clear hb a0 a1 a2 a3 d0 d1 d2)
      | (refine wpList_stG rfl 32 (.tmp 6) (.tmp 80) rfl (w.heap.size + 1 + 1) _ #[.i r.k, .b r.n, .u r.m, .i r.e] BR4 rfl rfl (by kernel_rfl) rfl (by simp [Value.oneCell']) ?_; intro W5 B5 P5; have HB5 := P5.bel HB4 (by omega)))
     replace HB3 := bl_drew HB3
     replace BR3 := BR3.drew
     have a0' : w3.drew.cell? _ = _ := a0
     have a1' : w3.drew.cell? _ = _ := a1
     have a2' : w3.drew.cell? _ = _ := a2
     have a3' : w3.drew.cell? _ = _ := a3
     have d0' : w3.drew.cell? _ = _ := d0
     have d1' : w3.drew.cell? _ = _ := d1
     have d2' : w3.drew.cell? _ = _ := d2
     clear a0 a1 a2 a3 d0 d1 d2
     refine start_ (n := 17) (S := fun w' => True) (ds := []) (bq 17 0) (by kernel_rfl) rfl rfl trivial (fun hHeld => ?_)
     generalize w3.drew = W3 at HB3 BR3 a0' a1' a2' a3' d0' d1' d2' ⊢
     refine pu 0 52 (bq 17 1) ?_ ?_ (fun _ => ?_) ?_ ?_
     rotate_left 2
     ·go_simp
      with_reducible rfl
     ·simp only [Act.put, pA, pB, pC]
      rfl
     refine pu 1 53 (bq 17 3) ?_ ?_ (fun _ => ?_) ?_ ?_
     rotate_left 2
     ·go_simp
      with_reducible rfl
     ·simp only [Act.put, pA, pB, pC]
      rfl
     refine pu 2 54 (bq 17 7) ?_ ?_ (fun _ => ?_) ?_ ?_
     rotate_left 2
     ·go_simp
      with_reducible rfl
     ·simp only [Act.put, pA, pB, pC]
      rfl
     refine pu 3 55 (bq 17 15) ?_ ?_ (fun _ => ?_) ?_ ?_
     rotate_left 2
     ·go_simp
      with_reducible rfl
     ·simp only [Act.put, pA, pB, pC]
      rfl
     refine pu 4 56 (bq 17 31) ?_ ?_ (fun _ => ?_) ?_ ?_
     rotate_left 2
     ·go_simp
      with_reducible rfl
     ·simp only [Act.put, pA, pB, pC]
      rfl
     refine pu 5 57 (bq 17 63) ?_ ?_ (fun _ => ?_) ?_ ?_
     rotate_left 2
     ·go_simp
      with_reducible rfl
     ·simp only [Act.put, pA, pB, pC]
      rfl
     refine pu 6 58 (bq 17 127) ?_ ?_ (fun _ => ?_) ?_ ?_
     rotate_left 2
     ·go_simp
      with_reducible rfl
     ·simp only [Act.put, pA, pB, pC]
      rfl
     refine pu 7 59 (bq 17 255) ?_ ?_ (fun _ => ?_) ?_ ?_
     rotate_left 2
     ·go_simp
      with_reducible rfl
     ·simp only [Act.put, pA, pB, pC]
      rfl
     refine pu 8 60 (bq 17 511) ?_ ?_ (fun _ => ?_) ?_ ?_
     rotate_left 2
     ·go_simp
      with_reducible rfl
     ·simp only [Act.put, pA, pB, pC]
      rfl
     refine pu 9 61 (bq 17 1023) ?_ ?_ (fun _ => ?_) ?_ ?_
     rotate_left 2
     ·go_simp
      with_reducible rfl
     ·simp only [Act.put, pA, pB, pC]
      rfl
     refine pu 10 62 (bq 17 2047) ?_ ?_ (fun _ => ?_) ?_ ?_
     rotate_left 2
     ·go_simp
      with_reducible rfl
     ·simp only [Act.put, pA, pB, pC]
      rfl
     refine pu 11 63 (bq 17 4095) ?_ ?_ (fun _ => ?_) ?_ ?_
     rotate_left 2
     ·go_simp
      with_reducible rfl
     ·simp only [Act.put, pA, pB, pC]
      rfl
     refine pu 12 64 (bq 17 8191) ?_ ?_ (fun _ => ?_) ?_ ?_
     rotate_left 2
     ·go_simp
      with_reducible rfl
     ·simp only [Act.put, pA, pB, pC]
      rfl
     refine pu 13 65 (bq 17 16383) ?_ ?_ (fun _ => ?_) ?_ ?_
     rotate_left 2
     ·go_simp
      with_reducible rfl
     ·simp only [Act.put, pA, pB, pC]
      rfl
     refine pu 14 11 (bq 17 32767) ?_ ?_ (fun _ => ?_) ?_ ?_
     rotate_left 2
     ·go_simp
      with_reducible rfl
     ·simp only [Act.put, pA, pB, pC]
      rfl
     refine pu 15 9 (bq 17 65535) ?_ ?_ (fun _ => ?_) ?_ ?_
     rotate_left 2
     ·go_simp
      with_reducible rfl
     ·simp only [Act.put, pA, pB, pC]
      rfl
     refine pu 16 13 (bq 17 131071) ?_ ?_ (fun _ => ?_) ?_ ?_
     rotate_left 2
     ·go_simp
      with_reducible rfl
     ·simp only [Act.put, pA, pB, pC]
      rfl
     refine done_ (by kernel_rfl) ?_
     go_wp2_with (first
      | (go_at_call 97; (refine (HG.out _).mono ?_); rintro e' w4 ⟨rfl, hb⟩; have HB4 := bl_trans HB3 hb; have BR4 := BR3.call hb; clear hb a0' a1' a2' a3' d0' d1' d2')
      | (refine wpList_stG rfl 32 (.tmp 6) (.tmp 80) rfl (w.heap.size + 1 + 1) _ #[.i r.k, .b r.n, .u r.m, .i r.e] BR4 rfl rfl (by kernel_rfl) rfl (by simp [Value.oneCell']) ?_; intro W5 B5 P5; have HB5 := P5.bel HB4 (by omega)))
     exact bodyPost_ret (results_cell_row rfl _ _ (w.heap.size + 1 + 1) 32 _ (0, 0) _ rfl B5 Tryz.underlying32 rfl (by kernel_rfl)) rfl ⟨rfl, HB5⟩
   ·have hcut1 : cut = true := by rw [hcut]; simp [hz]
    subst hcut1
    have h9 : (L2 != 0) = true := bne_iff_ne.2 hz
    clear hcut
    rcases hlz with ⟨rfl, rfl⟩ | ⟨rfl, rfl⟩
    ·skip
     go_enter Tryz.func84, Tryz.ntmps84
     go_wp2_with (first
      | (go_at_call 95; (refine (HL.out _).mono ?_); rintro e' w1 ⟨rfl, hb⟩; have HB1 := bl_trans HB0 hb; have X1 := X0.call hb; have BR1 := BR0.call hb; have hx1 := X1.lt; have hx2 := BR1.lt; clear hb)
      | (refine wpList_stG rfl 125 (.tmp 7) (.tmp 22) rfl w1.heap.size _ #[.u hiz, .u loz, .b true] (Blk.new w1 _ _) rfl rfl (by kernel_rfl) rfl (by simp [Value.oneCell']) ?_; intro W2 D2 P2; have X2 := P2.blk (X1.alloc _) (by omega); have BR2 := P2.blk (BR1.alloc _) (by omega); have HB2 := P2.bel (bl_alloc HB1 _) (by omega); obtain ⟨⟨a0, a1, a2, a3⟩, _⟩ := X2.c4; have d0 := D2.cell 0; have d1 := D2.cell 1; have d2 := D2.cell 2; simp only [List.getElem?_toArray, List.getElem?_cons_zero, List.getElem?_cons_succ] at d0 d1 d2)
      | (go_at_call 21; (refine (HZ.out _).mono ?_); rintro e' w3 ⟨rfl, hb⟩; have HB3 := bl_trans HB2 hb; have X3 := X2.call hb; have D3 := D2.call hb; have BR3 := BR2.call hb; have hx3 := D3.lt; clear hb a0 a1 a2 a3 d0 d1 d2; obtain ⟨⟨a0, a1, a2, a3⟩, _⟩ := X3.c4; have d0 := D3.cell 0; have d1 := D3.cell 1; have d2 := D3.cell 2; simp only [List.getElem?_toArray, List.getElem?_cons_zero, List.getElem?_cons_succ] at d0 d1 d2)
      | (go_at_call 97; (refine (HG.out _).mono ?_); rintro e' w4 ⟨rfl, hb⟩; have HB4 := bl_trans HB3 hb; have BR4 := BR3.call hb; clear hb a0 a1 a2 a3 d0 d1 d2)
      | (refine wpList_stG rfl 32 (.tmp 6) (.tmp 80) rfl (w.heap.size + 1 + 1) _ #[.i r.k, .b r.n, .u r.m, .i r.e] BR4 rfl rfl (by kernel_rfl) rfl (by simp [Value.oneCell']) ?_; intro W5 B5 P5; have HB5 := P5.bel HB4 (by omega)))
     replace HB3 := bl_drew HB3
     replace BR3 := BR3.drew
     have a0' : w3.drew.cell? _ = _ := a0
     have a1' : w3.drew.cell? _ = _ := a1
     have a2' : w3.drew.cell? _ = _ := a2
     have a3' : w3.drew.cell? _ = _ := a3
     have d0' : w3.drew.cell? _ = _ := d0
     have d1' : w3.drew.cell? _ = _ := d1
     have d2' : w3.drew.cell? _ = _ := d2
     clear a0 a1 a2 a3 d0 d1 d2
     refine start_ (n := 17) (S := fun w' => True) (ds := []) (bq 17 0) (by kernel_rfl) rfl rfl trivial (fun hHeld => ?_)
     generalize w3.drew = W3 at HB3 BR3 a0' a1' a2' a3' d0' d1' d2' ⊢
     refine pu 0 52 (bq 17 1) ?_ ?_ (fun _ => ?_) ?_ ?_
     rotate_left 2
     ·go_simp
      with_reducible rfl
     ·simp only [Act.put, pA, pB, pC]
      rfl
     refine pu 1 53 (bq 17 3) ?_ ?_ (fun _ => ?_) ?_ ?_
     rotate_left 2
     ·go_simp
      with_reducible rfl
     ·simp only [Act.put, pA, pB, pC]
      rfl
     refine pu 2 54 (bq 17 7) ?_ ?_ (fun _ => ?_) ?_ ?_
     rotate_left 2
     ·go_simp
      with_reducible rfl
     ·simp only [Act.put, pA, pB, pC]
      rfl
     refine pu 3 55 (bq 17 15) ?_ ?_ (fun _ => ?_) ?_ ?_
     rotate_left 2
     ·go_simp
      with_reducible rfl
     ·simp only [Act.put, pA, pB, pC]
      rfl
     refine pu 4 56 (bq 17 31) ?_ ?_ (fun _ => ?_) ?_ ?_
     rotate_left 2
     ·go_simp
      with_reducible rfl
     ·simp only [Act.put, pA, pB, pC]
      rfl
     refine pu 5 57 (bq 17 63) ?_ ?_ (fun _ => ?_) ?_ ?_
     rotate_left 2
     ·go_simp
      with_reducible rfl
     ·simp only [Act.put, pA, pB, pC]
      rfl
     refine pu 6 58 (bq 17 127) ?_ ?_ (fun _ => ?_) ?_ ?_
     rotate_left 2
     ·go_simp
      with_reducible rfl
     ·simp only [Act.put, pA, pB, pC]
      rfl
     refine pu 7 59 (bq 17 255) ?_ ?_ (fun _ => ?_) ?_ ?_
     rotate_left 2
     ·go_simp
      with_reducible rfl
     ·simp only [Act.put, pA, pB, pC]
      rfl
     refine pu 8 60 (bq 17 511) ?_ ?_ (fun _ => ?_) ?_ ?_
     rotate_left 2
     ·go_simp
      with_reducible rfl
     ·simp only [Act.put, pA, pB, pC]
      rfl
     refine pu 9 61 (bq 17 1023) ?_ ?_ (fun _ => ?_) ?_ ?_
     rotate_left 2
     ·go_simp
      with_reducible rfl
     ·simp only [Act.put, pA, pB, pC]
      rfl
     refine pu 10 62 (bq 17 2047) ?_ ?_ (fun _ => ?_) ?_ ?_
     rotate_left 2
     ·go_simp
      with_reducible rfl
     ·simp only [Act.put, pA, pB, pC]
      rfl
     refine pu 11 63 (bq 17 4095) ?_ ?_ (fun _ => ?_) ?_ ?_
     rotate_left 2
     ·go_simp
      with_reducible rfl
     ·simp only [Act.put, pA, pB, pC]
      rfl
     refine pu 12 64 (bq 17 8191) ?_ ?_ (fun _ => ?_) ?_ ?_
     rotate_left 2
     ·go_simp
      with_reducible rfl
     ·simp only [Act.put, pA, pB, pC]
      rfl
     refine pu 13 65 (bq 17 16383) ?_ ?_ (fun _ => ?_) ?_ ?_
     rotate_left 2
     ·go_simp
      with_reducible rfl
     ·simp only [Act.put, pA, pB, pC]
      rfl
     refine pu 14 11 (bq 17 32767) ?_ ?_ (fun _ => ?_) ?_ ?_
     rotate_left 2
     ·go_simp
      with_reducible rfl
     ·simp only [Act.put, pA, pB, pC]
      rfl
     refine pu 15 9 (bq 17 65535) ?_ ?_ (fun _ => ?_) ?_ ?_
     rotate_left 2
     ·go_simp
      with_reducible rfl
     ·simp only [Act.put, pA, pB, pC]
      rfl
     refine pu 16 13 (bq 17 131071) ?_ ?_ (fun _ => ?_) ?_ ?_
     rotate_left 2
     ·go_simp
      with_reducible rfl
     ·simp only [Act.put, pA, pB, pC]
      rfl
     refine done_ (by kernel_rfl) ?_
     go_wp2_with (first
      | (go_at_call 97; (refine (HG.out _).mono ?_); rintro e' w4 ⟨rfl, hb⟩; have HB4 := bl_trans HB3 hb; have BR4 := BR3.call hb; clear hb a0' a1' a2' a3' d0' d1' d2')
      | (refine wpList_stG rfl 32 (.tmp 6) (.tmp 80) rfl (w.heap.size + 1 + 1) _ #[.i r.k, .b r.n, .u r.m, .i r.e] BR4 rfl rfl (by kernel_rfl) rfl (by simp [Value.oneCell']) ?_; intro W5 B5 P5; have HB5 := P5.bel HB4 (by omega)))
     exact bodyPost_ret (results_cell_row rfl _ _ (w.heap.size + 1 + 1) 32 _ (0, 0) _ rfl B5 Tryz.underlying32 rfl (by kernel_rfl)) rfl ⟨rfl, HB5⟩
    ·skip
     go_enter Tryz.func84, Tryz.ntmps84
     go_wp2_with (first
      | (go_at_call 95; (refine (HL.out _).mono ?_); rintro e' w1 ⟨rfl, hb⟩; have HB1 := bl_trans HB0 hb; have X1 := X0.call hb; have BR1 := BR0.call hb; have hx1 := X1.lt; have hx2 := BR1.lt; clear hb)
      | (refine wpList_stG rfl 125 (.tmp 7) (.tmp 22) rfl w1.heap.size _ #[.u hiz, .u loz, .b false] (Blk.new w1 _ _) rfl rfl (by kernel_rfl) rfl (by simp [Value.oneCell']) ?_; intro W2 D2 P2; have X2 := P2.blk (X1.alloc _) (by omega); have BR2 := P2.blk (BR1.alloc _) (by omega); have HB2 := P2.bel (bl_alloc HB1 _) (by omega); obtain ⟨⟨a0, a1, a2, a3⟩, _⟩ := X2.c4; have d0 := D2.cell 0; have d1 := D2.cell 1; have d2 := D2.cell 2; simp only [List.getElem?_toArray, List.getElem?_cons_zero, List.getElem?_cons_succ] at d0 d1 d2)
      | (go_at_call 21; (refine (HZ.out _).mono ?_); rintro e' w3 ⟨rfl, hb⟩; have HB3 := bl_trans HB2 hb; have X3 := X2.call hb; have D3 := D2.call hb; have BR3 := BR2.call hb; have hx3 := D3.lt; clear hb a0 a1 a2 a3 d0 d1 d2; obtain ⟨⟨a0, a1, a2, a3⟩, _⟩ := X3.c4; have d0 := D3.cell 0; have d1 := D3.cell 1; have d2 := D3.cell 2; simp only [List.getElem?_toArray, List.getElem?_cons_zero, List.getElem?_cons_succ] at d0 d1 d2)
      | (go_at_call 97; (refine (HG.out _).mono ?_); rintro e' w4 ⟨rfl, hb⟩; have HB4 := bl_trans HB3 hb; have BR4 := BR3.call hb; clear hb a0 a1 a2 a3 d0 d1 d2)
      | (refine wpList_stG rfl 32 (.tmp 6) (.tmp 80) rfl (w.heap.size + 1 + 1) _ #[.i r.k, .b r.n, .u r.m, .i r.e] BR4 rfl rfl (by kernel_rfl) rfl (by simp [Value.oneCell']) ?_; intro W5 B5 P5; have HB5 := P5.bel HB4 (by omega)))
     replace HB3 := bl_drew HB3
     replace BR3 := BR3.drew
     have a0' : w3.drew.cell? _ = _ := a0
     have a1' : w3.drew.cell? _ = _ := a1
     have a2' : w3.drew.cell? _ = _ := a2
     have a3' : w3.drew.cell? _ = _ := a3
     have d0' : w3.drew.cell? _ = _ := d0
     have d1' : w3.drew.cell? _ = _ := d1
     have d2' : w3.drew.cell? _ = _ := d2
     clear a0 a1 a2 a3 d0 d1 d2
     refine start_ (n := 17) (S := fun w' => True) (ds := []) (bq 17 0) (by kernel_rfl) rfl rfl trivial (fun hHeld => ?_)
     generalize w3.drew = W3 at HB3 BR3 a0' a1' a2' a3' d0' d1' d2' ⊢
     refine pu 0 52 (bq 17 1) ?_ ?_ (fun _ => ?_) ?_ ?_
     rotate_left 2
     ·go_simp
      with_reducible rfl
     ·simp only [Act.put, pA, pB, pC]
      rfl
     refine pu 1 53 (bq 17 3) ?_ ?_ (fun _ => ?_) ?_ ?_
     rotate_left 2
     ·go_simp
      with_reducible rfl
     ·simp only [Act.put, pA, pB, pC]
      rfl
     refine pu 2 54 (bq 17 7) ?_ ?_ (fun _ => ?_) ?_ ?_
     rotate_left 2
     ·go_simp
      with_reducible rfl
     ·simp only [Act.put, pA, pB, pC]
      rfl
     refine pu 3 55 (bq 17 15) ?_ ?_ (fun _ => ?_) ?_ ?_
     rotate_left 2
     ·go_simp
      with_reducible rfl
     ·simp only [Act.put, pA, pB, pC]
      rfl
     refine pu 4 56 (bq 17 31) ?_ ?_ (fun _ => ?_) ?_ ?_
     rotate_left 2
     ·go_simp
      with_reducible rfl
     ·simp only [Act.put, pA, pB, pC]
      rfl
     refine pu 5 57 (bq 17 63) ?_ ?_ (fun _ => ?_) ?_ ?_
     rotate_left 2
     ·go_simp
      with_reducible rfl
     ·simp only [Act.put, pA, pB, pC]
      rfl
     refine pu 6 58 (bq 17 127) ?_ ?_ (fun _ => ?_) ?_ ?_
     rotate_left 2
     ·go_simp
      with_reducible rfl
     ·simp only [Act.put, pA, pB, pC]
      rfl
     refine pu 7 59 (bq 17 255) ?_ ?_ (fun _ => ?_) ?_ ?_
     rotate_left 2
     ·go_simp
      with_reducible rfl
     ·simp only [Act.put, pA, pB, pC]
      rfl
     refine pu 8 60 (bq 17 511) ?_ ?_ (fun _ => ?_) ?_ ?_
     rotate_left 2
     ·go_simp
      with_reducible rfl
     ·simp only [Act.put, pA, pB, pC]
      rfl
     refine pu 9 61 (bq 17 1023) ?_ ?_ (fun _ => ?_) ?_ ?_
     rotate_left 2
     ·go_simp
      with_reducible rfl
     ·simp only [Act.put, pA, pB, pC]
      rfl
     refine pu 10 62 (bq 17 2047) ?_ ?_ (fun _ => ?_) ?_ ?_
     rotate_left 2
     ·go_simp
      with_reducible rfl
     ·simp only [Act.put, pA, pB, pC]
      rfl
     refine pu 11 63 (bq 17 4095) ?_ ?_ (fun _ => ?_) ?_ ?_
     rotate_left 2
     ·go_simp
      with_reducible rfl
     ·simp only [Act.put, pA, pB, pC]
      rfl
     refine pu 12 64 (bq 17 8191) ?_ ?_ (fun _ => ?_) ?_ ?_
     rotate_left 2
     ·go_simp
      with_reducible rfl
     ·simp only [Act.put, pA, pB, pC]
      rfl
     refine pu 13 65 (bq 17 16383) ?_ ?_ (fun _ => ?_) ?_ ?_
     rotate_left 2
     ·go_simp
      with_reducible rfl
     ·simp only [Act.put, pA, pB, pC]
      rfl
     refine pu 14 11 (bq 17 32767) ?_ ?_ (fun _ => ?_) ?_ ?_
     rotate_left 2
     ·go_simp
      with_reducible rfl
     ·simp only [Act.put, pA, pB, pC]
      rfl
     refine pu 15 9 (bq 17 65535) ?_ ?_ (fun _ => ?_) ?_ ?_
     rotate_left 2
     ·go_simp
      with_reducible rfl
     ·simp only [Act.put, pA, pB, pC]
      rfl
     refine pu 16 13 (bq 17 131071) ?_ ?_ (fun _ => ?_) ?_ ?_
     rotate_left 2
     ·go_simp
      with_reducible rfl
     ·simp only [Act.put, pA, pB, pC]
      rfl
     refine done_ (by kernel_rfl) ?_
     go_wp2_with (first
      | (go_at_call 97; (refine (HG.out _).mono ?_); rintro e' w4 ⟨rfl, hb⟩; have HB4 := bl_trans HB3 hb; have BR4 := BR3.call hb; clear hb a0' a1' a2' a3' d0' d1' d2')
      | (refine wpList_stG rfl 32 (.tmp 6) (.tmp 80) rfl (w.heap.size + 1 + 1) _ #[.i r.k, .b r.n, .u r.m, .i r.e] BR4 rfl rfl (by kernel_rfl) rfl (by simp [Value.oneCell']) ?_; intro W5 B5 P5; have HB5 := P5.bel HB4 (by omega)))
     exact bodyPost_ret (results_cell_row rfl _ _ (w.heap.size + 1 + 1) 32 _ (0, 0) _ rfl B5 Tryz.underlying32 rfl (by kernel_rfl)) rfl ⟨rfl, HB5⟩
end Go.Proofs.YteabdeohhmbclaaGreat.Wk
