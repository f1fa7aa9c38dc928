/- Walks: the reference's Most and Least, for every slice of numbers: they are num's. -/
import Derived.Test.YteabdeohhmbclaaGreatRefXy
import Derived.Test.YteabdeohhmbclaaGreatNumCy
import Derived.Test.YteabdeohhmbclaaGreatPureAy
namespace Go.Proofs.YteabdeohhmbclaaGreat.Wk
open Go.RowKit Go.Proofs.Pl Go.Proofs.YteabdeohhmbclaaGreatW.PrintLast
set_option linter.unusedSimpArgs false
set_option linter.unusedVariables false

set_option maxRecDepth 100000 in
set_option maxHeartbeats 4000000 in
theorem rmostN_calls (A : Option Addr) (n c : Nat) (xs : List Num) (w : World) (hs : SlN w w.heap.size A n xs) (hn : n ≤ 4611686018427387904) :
  Calls Tryz.prog 51 #[.slice A n c] w fun e w' => e = .returned (.agg #[.i (mostN xs).k, .b (mostN xs).n, .u (mostN xs).m, .i (mostN xs).e]) ∧ Below w.heap.size w w' := by
 go_enter Tryz.func51, Tryz.ntmps51
 go_wp2_with (go_at_call 71; refine (rinfN_lit true _).mono ?_; rintro e w1 ⟨rfl, hb⟩; have BR1 := (Blk.new w _ _).call hb; have HB1 := bl_trans (bl_alloc (Below.refl w.heap.size w) _) hb; have hz : w.heap.size < w1.heap.size := (by have := hb.size; simp at this; omega); clear hb)
 have BO0 := Blk.new w1 32 #[.i 2, .b true, .u 0, .i 0]
 have BR0 := BR1.alloc (.cells #[.i 2, .b true, .u 0, .i 0] 32)
 have HB0 := bl_alloc HB1 (.cells #[.i 2, .b true, .u 0, .i 0] 32)
 clear HB1 BR1
 generalize (w1.alloc (.cells #[.i 2, .b true, .u 0, .i 0] 32)) = W1 at BO0 BR0 HB0 ⊢
 generalize w1.heap.size = OB at BO0 hz ⊢
 go_loopw [4] (fun i wr => ∃ k : Nat, k ≤ n ∧ i = .i k ∧ ∃ o0 o1 o2 o3, (⟨o0, o1, o2, o3⟩ : Num) = (xs.take k).foldl mostStep (infN true) ∧ Blk wr OB 32 #[.i o0, .b o1, .u o2, .i o3] ∧ Blk wr w.heap.size 32 #[.i 0, .b false, .u 0, .i 0] ∧ Below w.heap.size w wr) (fun i _ => n - (intOf i).toNat)
 case atStart => exact ⟨0, Nat.zero_le _, rfl, 2, true, 0, 0, rfl, BO0, BR0, HB0⟩
 case round =>
  obtain ⟨k, hk, rfl, o0, o1, o2, o3, ho, BO, BR, HB⟩ := hrel
  have Ho := Lib.hid ho
  clear ho BO0 BR0 HB0
  by_cases hlt : k < n
  ·obtain ⟨b, off, ⟨x0, x1, x2, x3⟩, rfl, hbB, hx, e0, e1, e2, e3⟩ := (hs.below HB).at_ hlt
   have hst : (xs.take (k + 1)).foldl mostStep (infN true) = if 0 < cmpN ⟨x0, x1, x2, x3⟩ ⟨o0, o1, o2, o3⟩ then fairN ⟨x0, x1, x2, x3⟩ else ⟨o0, o1, o2, o3⟩ := by
    rw [foldl_take_succ _ _ xs k _ hx, ← Ho.out]; rfl
   have Hs := Lib.hid hst
   clear hst hx
   have hbW : b < wr.heap.size := Nat.lt_of_lt_of_le hbB HB.size
   have HC := Lib.hid (fun W => rcmpN_calls x0 x1 x2 x3 o0 o1 o2 o3 W)
   have HF := Lib.hid (fun W => rfairN_calls x0 x1 x2 x3 W)
   generalize cmpN ⟨x0, x1, x2, x3⟩ ⟨o0, o1, o2, o3⟩ = r at HC Hs
   generalize fairN ⟨x0, x1, x2, x3⟩ = f at HF Hs
   obtain ⟨f0, f1, f2, f3⟩ := f
   dsimp only at HF
   obtain ⟨⟨y0, y1, y2, y3⟩, _⟩ := BO.c4
   have hOl := BO.lt
   by_cases hr : 0 < r
   ·skip
    go_wp2_with fail
    replace BO := BO.drew
    replace BR := BR.drew
    replace HB := bl_drew HB
    replace e0 : wr.drew.cell? _ = _ := e0
    replace e1 : wr.drew.cell? _ = _ := e1
    replace e2 : wr.drew.cell? _ = _ := e2
    replace e3 : wr.drew.cell? _ = _ := e3
    refine start_ (n := 7) (S := fun w' => w'.cell? ⟨b, off + k * 4, none⟩ = some (.i x0) ∧ w'.cell? ⟨b, off + k * 4 + 1, none⟩ = some (.b x1) ∧ w'.cell? ⟨b, off + k * 4 + 2, none⟩ = some (.u x2) ∧ w'.cell? ⟨b, off + k * 4 + 3, none⟩ = some (.i x3) ∧ w'.cell? ⟨OB, 0, none⟩ = some (.i o0) ∧ w'.cell? ⟨OB, 1, none⟩ = some (.b o1) ∧ w'.cell? ⟨OB, 2, none⟩ = some (.u o2) ∧ w'.cell? ⟨OB, 3, none⟩ = some (.i o3)) (ds := []) (bq 7 0) (by kernel_rfl) rfl rfl ⟨e0, e1, e2, e3, BO.cell 0, BO.cell 1, BO.cell 2, BO.cell 3⟩ (fun hHeld => ?_)
    generalize hWW : World.drew _ = W5 at BO BR HB e0 e1 e2 e3 hHeld ⊢
    clear hWW
    refine pu 0 12 (bq 7 1) ?_ ?_ (fun _ => ?_) ?_ ?_
    rotate_left 2
    ·go_simp
     with_reducible rfl
    ·simp only [Act.put, pA, pB, pC]
     rfl
    refine pu 1 13 (bq 7 3) ?_ ?_ (fun _ => ?_) ?_ ?_
    rotate_left 2
    ·go_simp
     with_reducible rfl
    ·simp only [Act.put, pA, pB, pC]
     rfl
    refine pu 2 14 (bq 7 7) ?_ ?_ (fun _ => ?_) ?_ ?_
    rotate_left 2
    ·go_simp
     with_reducible rfl
    ·simp only [Act.put, pA, pB, pC]
     rfl
    refine tk 3 15 (bq 7 15) ?_ ?_ ?_ ?_ hHeld ?_
    rotate_left 2
    ·rintro w' ⟨s0_, s1_, s2_, s3_, s4_, s5_, s6_, s7_⟩
     go_simp
     with_reducible rfl
    ·simp only [Act.put, pA, pB, pC]
     rfl
    refine tk 4 16 (bq 7 31) ?_ ?_ ?_ ?_ hHeld ?_
    rotate_left 2
    ·rintro w' ⟨s0_, s1_, s2_, s3_, s4_, s5_, s6_, s7_⟩
     go_simp
     with_reducible rfl
    ·simp only [Act.put, pA, pB, pC]
     rfl
    refine on 5 17 (bq 7 63) (fun K hK => ?_)
    refine goes_ Tryz.func72 (by kernel_rfl) rfl #[.agg #[.i x0, .b x1, .u x2, .i x3], .agg #[.i o0, .b o1, .u o2, .i o3]] (by first | rfl | go_simp) rfl rfl (by simp only [List.map_toArray, List.map_cons, List.map_nil] <;> rfl) ?_
    with_reducible refine (HC.out _).mono ?_
    rintro e w2 ⟨rfl, hb⟩
    refine ⟨_, rfl, ?_⟩
    have BO := BO.call hb
    have BR := BR.call hb
    have hbW' : b < W5.heap.size := Nat.lt_of_lt_of_le hbB HB.size
    replace e0 := (hb.cell (p := ⟨b, off + k * 4, none⟩) hbW').trans e0
    replace e1 := (hb.cell (p := ⟨b, off + k * 4 + 1, none⟩) hbW').trans e1
    replace e2 := (hb.cell (p := ⟨b, off + k * 4 + 2, none⟩) hbW').trans e2
    replace e3 := (hb.cell (p := ⟨b, off + k * 4 + 3, none⟩) hbW').trans e3
    have HB := bl_trans HB hb
    refine hK.out _ _ ⟨e0, e1, e2, e3, BO.cell 0, BO.cell 1, BO.cell 2, BO.cell 3⟩ (fun hHeld => ?_)
    clear hK K hb
    refine norm_ (a' := ?_) ?_ ?_
    rotate_left
    ·show Act.put _ (some 17) _ = _
     simp only [Act.put, pA, pB, pC]
     rfl
    refine pu 6 18 (bq 7 127) ?_ ?_ (fun _ => ?_) ?_ ?_
    rotate_left 2
    ·go_simp
     with_reducible rfl
    ·simp only [Act.put, pA, pB, pC]
     rfl
    refine done_ (by kernel_rfl) ?_
    clear hHeld
    go_wp2_with (go_at_call 73; refine (HF.out _).mono ?_; rintro e w3 ⟨rfl, hb⟩; have BO3 := BO.call hb; have BR3 := BR.call hb; have HB3 := bl_trans HB hb; obtain ⟨W4, hW4, BO4, hK, hL, _⟩ := put4 BO3 (.i f0) (.b f1) (.u f2) (.i f3); have BR4 := hK _ _ _ (Nat.ne_of_lt hz) BR3; have HB4 := hL w HB3 (Nat.le_of_lt hz); obtain ⟨⟨p0, p1, p2, p3⟩, ⟨g0, g1, g2, g3⟩⟩ := BO3.c4)
    go_roundw
    case rel => exact ⟨k + 1, by omega, by go_num, f0, f1, f2, f3, by rw [Hs.out, if_pos hr], BO4, BR4, HB4⟩
    case measure => simp [intOf]; omega
   ·skip
    go_wp2_with fail
    replace BO := BO.drew
    replace BR := BR.drew
    replace HB := bl_drew HB
    replace e0 : wr.drew.cell? _ = _ := e0
    replace e1 : wr.drew.cell? _ = _ := e1
    replace e2 : wr.drew.cell? _ = _ := e2
    replace e3 : wr.drew.cell? _ = _ := e3
    refine start_ (n := 7) (S := fun w' => w'.cell? ⟨b, off + k * 4, none⟩ = some (.i x0) ∧ w'.cell? ⟨b, off + k * 4 + 1, none⟩ = some (.b x1) ∧ w'.cell? ⟨b, off + k * 4 + 2, none⟩ = some (.u x2) ∧ w'.cell? ⟨b, off + k * 4 + 3, none⟩ = some (.i x3) ∧ w'.cell? ⟨OB, 0, none⟩ = some (.i o0) ∧ w'.cell? ⟨OB, 1, none⟩ = some (.b o1) ∧ w'.cell? ⟨OB, 2, none⟩ = some (.u o2) ∧ w'.cell? ⟨OB, 3, none⟩ = some (.i o3)) (ds := []) (bq 7 0) (by kernel_rfl) rfl rfl ⟨e0, e1, e2, e3, BO.cell 0, BO.cell 1, BO.cell 2, BO.cell 3⟩ (fun hHeld => ?_)
    generalize hWW : World.drew _ = W5 at BO BR HB e0 e1 e2 e3 hHeld ⊢
    clear hWW
    refine pu 0 12 (bq 7 1) ?_ ?_ (fun _ => ?_) ?_ ?_
    rotate_left 2
    ·go_simp
     with_reducible rfl
    ·simp only [Act.put, pA, pB, pC]
     rfl
    refine pu 1 13 (bq 7 3) ?_ ?_ (fun _ => ?_) ?_ ?_
    rotate_left 2
    ·go_simp
     with_reducible rfl
    ·simp only [Act.put, pA, pB, pC]
     rfl
    refine pu 2 14 (bq 7 7) ?_ ?_ (fun _ => ?_) ?_ ?_
    rotate_left 2
    ·go_simp
     with_reducible rfl
    ·simp only [Act.put, pA, pB, pC]
     rfl
    refine tk 3 15 (bq 7 15) ?_ ?_ ?_ ?_ hHeld ?_
    rotate_left 2
    ·rintro w' ⟨s0_, s1_, s2_, s3_, s4_, s5_, s6_, s7_⟩
     go_simp
     with_reducible rfl
    ·simp only [Act.put, pA, pB, pC]
     rfl
    refine tk 4 16 (bq 7 31) ?_ ?_ ?_ ?_ hHeld ?_
    rotate_left 2
    ·rintro w' ⟨s0_, s1_, s2_, s3_, s4_, s5_, s6_, s7_⟩
     go_simp
     with_reducible rfl
    ·simp only [Act.put, pA, pB, pC]
     rfl
    refine on 5 17 (bq 7 63) (fun K hK => ?_)
    refine goes_ Tryz.func72 (by kernel_rfl) rfl #[.agg #[.i x0, .b x1, .u x2, .i x3], .agg #[.i o0, .b o1, .u o2, .i o3]] (by first | rfl | go_simp) rfl rfl (by simp only [List.map_toArray, List.map_cons, List.map_nil] <;> rfl) ?_
    with_reducible refine (HC.out _).mono ?_
    rintro e w2 ⟨rfl, hb⟩
    refine ⟨_, rfl, ?_⟩
    have BO := BO.call hb
    have BR := BR.call hb
    have hbW' : b < W5.heap.size := Nat.lt_of_lt_of_le hbB HB.size
    replace e0 := (hb.cell (p := ⟨b, off + k * 4, none⟩) hbW').trans e0
    replace e1 := (hb.cell (p := ⟨b, off + k * 4 + 1, none⟩) hbW').trans e1
    replace e2 := (hb.cell (p := ⟨b, off + k * 4 + 2, none⟩) hbW').trans e2
    replace e3 := (hb.cell (p := ⟨b, off + k * 4 + 3, none⟩) hbW').trans e3
    have HB := bl_trans HB hb
    refine hK.out _ _ ⟨e0, e1, e2, e3, BO.cell 0, BO.cell 1, BO.cell 2, BO.cell 3⟩ (fun hHeld => ?_)
    clear hK K hb
    refine norm_ (a' := ?_) ?_ ?_
    rotate_left
    ·show Act.put _ (some 17) _ = _
     simp only [Act.put, pA, pB, pC]
     rfl
    refine pu 6 18 (bq 7 127) ?_ ?_ (fun _ => ?_) ?_ ?_
    rotate_left 2
    ·go_simp
     with_reducible rfl
    ·simp only [Act.put, pA, pB, pC]
     rfl
    refine done_ (by kernel_rfl) ?_
    clear hHeld
    go_wp2
    go_roundw
    case rel => exact ⟨k + 1, by omega, by go_num, o0, o1, o2, o3, by rw [Hs.out, if_neg (by omega)], BO, BR, HB⟩
    case measure => simp [intOf]; omega
  ·have hkn : k = n := by omega
   have Hf : Hid ((⟨o0, o1, o2, o3⟩ : Num) = mostN xs) := by
    have h1 := Ho.out
    rw [List.take_of_length_le (by have := hs.1; omega)] at h1
    exact h1
   clear Ho hkn
   have hlt' : n ≤ k := by omega
   obtain ⟨W4, hW4, BR4, _, hL, _⟩ := put4 BR (.i o0) (.b o1) (.u o2) (.i o3)
   have HB4 := hL w HB (Nat.le_refl _)
   obtain ⟨⟨q0, q1, q2, q3⟩, _⟩ := BO.c4
   obtain ⟨⟨p0, p1, p2, p3⟩, ⟨g0, g1, g2, g3⟩⟩ := BR.c4
   go_wp2
   refine bodyPost_ret (results_cell_row rfl _ _ w.heap.size 32 #[.i o0, .b o1, .u o2, .i o3] (0, 0) _ rfl BR4 Tryz.underlying32 rfl (by kernel_rfl)) rfl ⟨?_, HB4⟩
   rw [← Hf.out]

set_option maxRecDepth 100000 in
set_option maxHeartbeats 4000000 in
theorem rleastN_calls (A : Option Addr) (n c : Nat) (xs : List Num) (w : World) (hs : SlN w w.heap.size A n xs) (hn : n ≤ 4611686018427387904) :
  Calls Tryz.prog 52 #[.slice A n c] w fun e w' => e = .returned (.agg #[.i (leastN xs).k, .b (leastN xs).n, .u (leastN xs).m, .i (leastN xs).e]) ∧ Below w.heap.size w w' := by
 go_enter Tryz.func52, Tryz.ntmps52
 go_wp2_with (go_at_call 71; refine (rinfN_lit false _).mono ?_; rintro e w1 ⟨rfl, hb⟩; have BR1 := (Blk.new w _ _).call hb; have HB1 := bl_trans (bl_alloc (Below.refl w.heap.size w) _) hb; have hz : w.heap.size < w1.heap.size := (by have := hb.size; simp at this; omega); clear hb)
 have BO0 := Blk.new w1 32 #[.i 2, .b false, .u 0, .i 0]
 have BR0 := BR1.alloc (.cells #[.i 2, .b false, .u 0, .i 0] 32)
 have HB0 := bl_alloc HB1 (.cells #[.i 2, .b false, .u 0, .i 0] 32)
 clear HB1 BR1
 generalize (w1.alloc (.cells #[.i 2, .b false, .u 0, .i 0] 32)) = W1 at BO0 BR0 HB0 ⊢
 generalize w1.heap.size = OB at BO0 hz ⊢
 go_loopw [4] (fun i wr => ∃ k : Nat, k ≤ n ∧ i = .i k ∧ ∃ o0 o1 o2 o3, (⟨o0, o1, o2, o3⟩ : Num) = (xs.take k).foldl leastStep (infN false) ∧ Blk wr OB 32 #[.i o0, .b o1, .u o2, .i o3] ∧ Blk wr w.heap.size 32 #[.i 0, .b false, .u 0, .i 0] ∧ Below w.heap.size w wr) (fun i _ => n - (intOf i).toNat)
 case atStart => exact ⟨0, Nat.zero_le _, rfl, 2, false, 0, 0, rfl, BO0, BR0, HB0⟩
 case round =>
  obtain ⟨k, hk, rfl, o0, o1, o2, o3, ho, BO, BR, HB⟩ := hrel
  have Ho := Lib.hid ho
  clear ho BO0 BR0 HB0
  by_cases hlt : k < n
  ·obtain ⟨b, off, ⟨x0, x1, x2, x3⟩, rfl, hbB, hx, e0, e1, e2, e3⟩ := (hs.below HB).at_ hlt
   have hst : (xs.take (k + 1)).foldl leastStep (infN false) = if cmpN ⟨x0, x1, x2, x3⟩ ⟨o0, o1, o2, o3⟩ < 0 then fairN ⟨x0, x1, x2, x3⟩ else ⟨o0, o1, o2, o3⟩ := by
    rw [foldl_take_succ _ _ xs k _ hx, ← Ho.out]; rfl
   have Hs := Lib.hid hst
   clear hst hx
   have hbW : b < wr.heap.size := Nat.lt_of_lt_of_le hbB HB.size
   have HC := Lib.hid (fun W => rcmpN_calls x0 x1 x2 x3 o0 o1 o2 o3 W)
   have HF := Lib.hid (fun W => rfairN_calls x0 x1 x2 x3 W)
   generalize cmpN ⟨x0, x1, x2, x3⟩ ⟨o0, o1, o2, o3⟩ = r at HC Hs
   generalize fairN ⟨x0, x1, x2, x3⟩ = f at HF Hs
   obtain ⟨f0, f1, f2, f3⟩ := f
   dsimp only at HF
   obtain ⟨⟨y0, y1, y2, y3⟩, _⟩ := BO.c4
   have hOl := BO.lt
   by_cases hr : r < 0
   ·skip
    go_wp2_with fail
    replace BO := BO.drew
    replace BR := BR.drew
    replace HB := bl_drew HB
    replace e0 : wr.drew.cell? _ = _ := e0
    replace e1 : wr.drew.cell? _ = _ := e1
    replace e2 : wr.drew.cell? _ = _ := e2
    replace e3 : wr.drew.cell? _ = _ := e3
    refine start_ (n := 7) (S := fun w' => w'.cell? ⟨b, off + k * 4, none⟩ = some (.i x0) ∧ w'.cell? ⟨b, off + k * 4 + 1, none⟩ = some (.b x1) ∧ w'.cell? ⟨b, off + k * 4 + 2, none⟩ = some (.u x2) ∧ w'.cell? ⟨b, off + k * 4 + 3, none⟩ = some (.i x3) ∧ w'.cell? ⟨OB, 0, none⟩ = some (.i o0) ∧ w'.cell? ⟨OB, 1, none⟩ = some (.b o1) ∧ w'.cell? ⟨OB, 2, none⟩ = some (.u o2) ∧ w'.cell? ⟨OB, 3, none⟩ = some (.i o3)) (ds := []) (bq 7 0) (by kernel_rfl) rfl rfl ⟨e0, e1, e2, e3, BO.cell 0, BO.cell 1, BO.cell 2, BO.cell 3⟩ (fun hHeld => ?_)
    generalize hWW : World.drew _ = W5 at BO BR HB e0 e1 e2 e3 hHeld ⊢
    clear hWW
    refine pu 0 12 (bq 7 1) ?_ ?_ (fun _ => ?_) ?_ ?_
    rotate_left 2
    ·go_simp
     with_reducible rfl
    ·simp only [Act.put, pA, pB, pC]
     rfl
    refine pu 1 13 (bq 7 3) ?_ ?_ (fun _ => ?_) ?_ ?_
    rotate_left 2
    ·go_simp
     with_reducible rfl
    ·simp only [Act.put, pA, pB, pC]
     rfl
    refine pu 2 14 (bq 7 7) ?_ ?_ (fun _ => ?_) ?_ ?_
    rotate_left 2
    ·go_simp
     with_reducible rfl
    ·simp only [Act.put, pA, pB, pC]
     rfl
    refine tk 3 15 (bq 7 15) ?_ ?_ ?_ ?_ hHeld ?_
    rotate_left 2
    ·rintro w' ⟨s0_, s1_, s2_, s3_, s4_, s5_, s6_, s7_⟩
     go_simp
     with_reducible rfl
    ·simp only [Act.put, pA, pB, pC]
     rfl
    refine tk 4 16 (bq 7 31) ?_ ?_ ?_ ?_ hHeld ?_
    rotate_left 2
    ·rintro w' ⟨s0_, s1_, s2_, s3_, s4_, s5_, s6_, s7_⟩
     go_simp
     with_reducible rfl
    ·simp only [Act.put, pA, pB, pC]
     rfl
    refine on 5 17 (bq 7 63) (fun K hK => ?_)
    refine goes_ Tryz.func72 (by kernel_rfl) rfl #[.agg #[.i x0, .b x1, .u x2, .i x3], .agg #[.i o0, .b o1, .u o2, .i o3]] (by first | rfl | go_simp) rfl rfl (by simp only [List.map_toArray, List.map_cons, List.map_nil] <;> rfl) ?_
    with_reducible refine (HC.out _).mono ?_
    rintro e w2 ⟨rfl, hb⟩
    refine ⟨_, rfl, ?_⟩
    have BO := BO.call hb
    have BR := BR.call hb
    have hbW' : b < W5.heap.size := Nat.lt_of_lt_of_le hbB HB.size
    replace e0 := (hb.cell (p := ⟨b, off + k * 4, none⟩) hbW').trans e0
    replace e1 := (hb.cell (p := ⟨b, off + k * 4 + 1, none⟩) hbW').trans e1
    replace e2 := (hb.cell (p := ⟨b, off + k * 4 + 2, none⟩) hbW').trans e2
    replace e3 := (hb.cell (p := ⟨b, off + k * 4 + 3, none⟩) hbW').trans e3
    have HB := bl_trans HB hb
    refine hK.out _ _ ⟨e0, e1, e2, e3, BO.cell 0, BO.cell 1, BO.cell 2, BO.cell 3⟩ (fun hHeld => ?_)
    clear hK K hb
    refine norm_ (a' := ?_) ?_ ?_
    rotate_left
    ·show Act.put _ (some 17) _ = _
     simp only [Act.put, pA, pB, pC]
     rfl
    refine pu 6 18 (bq 7 127) ?_ ?_ (fun _ => ?_) ?_ ?_
    rotate_left 2
    ·go_simp
     with_reducible rfl
    ·simp only [Act.put, pA, pB, pC]
     rfl
    refine done_ (by kernel_rfl) ?_
    clear hHeld
    go_wp2_with (go_at_call 73; refine (HF.out _).mono ?_; rintro e w3 ⟨rfl, hb⟩; have BO3 := BO.call hb; have BR3 := BR.call hb; have HB3 := bl_trans HB hb; obtain ⟨W4, hW4, BO4, hK, hL, _⟩ := put4 BO3 (.i f0) (.b f1) (.u f2) (.i f3); have BR4 := hK _ _ _ (Nat.ne_of_lt hz) BR3; have HB4 := hL w HB3 (Nat.le_of_lt hz); obtain ⟨⟨p0, p1, p2, p3⟩, ⟨g0, g1, g2, g3⟩⟩ := BO3.c4)
    go_roundw
    case rel => exact ⟨k + 1, by omega, by go_num, f0, f1, f2, f3, by rw [Hs.out, if_pos hr], BO4, BR4, HB4⟩
    case measure => simp [intOf]; omega
   ·skip
    go_wp2_with fail
    replace BO := BO.drew
    replace BR := BR.drew
    replace HB := bl_drew HB
    replace e0 : wr.drew.cell? _ = _ := e0
    replace e1 : wr.drew.cell? _ = _ := e1
    replace e2 : wr.drew.cell? _ = _ := e2
    replace e3 : wr.drew.cell? _ = _ := e3
    refine start_ (n := 7) (S := fun w' => w'.cell? ⟨b, off + k * 4, none⟩ = some (.i x0) ∧ w'.cell? ⟨b, off + k * 4 + 1, none⟩ = some (.b x1) ∧ w'.cell? ⟨b, off + k * 4 + 2, none⟩ = some (.u x2) ∧ w'.cell? ⟨b, off + k * 4 + 3, none⟩ = some (.i x3) ∧ w'.cell? ⟨OB, 0, none⟩ = some (.i o0) ∧ w'.cell? ⟨OB, 1, none⟩ = some (.b o1) ∧ w'.cell? ⟨OB, 2, none⟩ = some (.u o2) ∧ w'.cell? ⟨OB, 3, none⟩ = some (.i o3)) (ds := []) (bq 7 0) (by kernel_rfl) rfl rfl ⟨e0, e1, e2, e3, BO.cell 0, BO.cell 1, BO.cell 2, BO.cell 3⟩ (fun hHeld => ?_)
    generalize hWW : World.drew _ = W5 at BO BR HB e0 e1 e2 e3 hHeld ⊢
    clear hWW
    refine pu 0 12 (bq 7 1) ?_ ?_ (fun _ => ?_) ?_ ?_
    rotate_left 2
    ·go_simp
     with_reducible rfl
    ·simp only [Act.put, pA, pB, pC]
     rfl
    refine pu 1 13 (bq 7 3) ?_ ?_ (fun _ => ?_) ?_ ?_
    rotate_left 2
    ·go_simp
     with_reducible rfl
    ·simp only [Act.put, pA, pB, pC]
     rfl
    refine pu 2 14 (bq 7 7) ?_ ?_ (fun _ => ?_) ?_ ?_
    rotate_left 2
    ·go_simp
     with_reducible rfl
    ·simp only [Act.put, pA, pB, pC]
     rfl
    refine tk 3 15 (bq 7 15) ?_ ?_ ?_ ?_ hHeld ?_
    rotate_left 2
    ·rintro w' ⟨s0_, s1_, s2_, s3_, s4_, s5_, s6_, s7_⟩
     go_simp
     with_reducible rfl
    ·simp only [Act.put, pA, pB, pC]
     rfl
    refine tk 4 16 (bq 7 31) ?_ ?_ ?_ ?_ hHeld ?_
    rotate_left 2
    ·rintro w' ⟨s0_, s1_, s2_, s3_, s4_, s5_, s6_, s7_⟩
     go_simp
     with_reducible rfl
    ·simp only [Act.put, pA, pB, pC]
     rfl
    refine on 5 17 (bq 7 63) (fun K hK => ?_)
    refine goes_ Tryz.func72 (by kernel_rfl) rfl #[.agg #[.i x0, .b x1, .u x2, .i x3], .agg #[.i o0, .b o1, .u o2, .i o3]] (by first | rfl | go_simp) rfl rfl (by simp only [List.map_toArray, List.map_cons, List.map_nil] <;> rfl) ?_
    with_reducible refine (HC.out _).mono ?_
    rintro e w2 ⟨rfl, hb⟩
    refine ⟨_, rfl, ?_⟩
    have BO := BO.call hb
    have BR := BR.call hb
    have hbW' : b < W5.heap.size := Nat.lt_of_lt_of_le hbB HB.size
    replace e0 := (hb.cell (p := ⟨b, off + k * 4, none⟩) hbW').trans e0
    replace e1 := (hb.cell (p := ⟨b, off + k * 4 + 1, none⟩) hbW').trans e1
    replace e2 := (hb.cell (p := ⟨b, off + k * 4 + 2, none⟩) hbW').trans e2
    replace e3 := (hb.cell (p := ⟨b, off + k * 4 + 3, none⟩) hbW').trans e3
    have HB := bl_trans HB hb
    refine hK.out _ _ ⟨e0, e1, e2, e3, BO.cell 0, BO.cell 1, BO.cell 2, BO.cell 3⟩ (fun hHeld => ?_)
    clear hK K hb
    refine norm_ (a' := ?_) ?_ ?_
    rotate_left
    ·show Act.put _ (some 17) _ = _
     simp only [Act.put, pA, pB, pC]
     rfl
    refine pu 6 18 (bq 7 127) ?_ ?_ (fun _ => ?_) ?_ ?_
    rotate_left 2
    ·go_simp
     with_reducible rfl
    ·simp only [Act.put, pA, pB, pC]
     rfl
    refine done_ (by kernel_rfl) ?_
    clear hHeld
    go_wp2
    go_roundw
    case rel => exact ⟨k + 1, by omega, by go_num, o0, o1, o2, o3, by rw [Hs.out, if_neg (by omega)], BO, BR, HB⟩
    case measure => simp [intOf]; omega
  ·have hkn : k = n := by omega
   have Hf : Hid ((⟨o0, o1, o2, o3⟩ : Num) = leastN xs) := by
    have h1 := Ho.out
    rw [List.take_of_length_le (by have := hs.1; omega)] at h1
    exact h1
   clear Ho hkn
   have hlt' : n ≤ k := by omega
   obtain ⟨W4, hW4, BR4, _, hL, _⟩ := put4 BR (.i o0) (.b o1) (.u o2) (.i o3)
   have HB4 := hL w HB (Nat.le_refl _)
   obtain ⟨⟨q0, q1, q2, q3⟩, _⟩ := BO.c4
   obtain ⟨⟨p0, p1, p2, p3⟩, ⟨g0, g1, g2, g3⟩⟩ := BR.c4
   go_wp2
   refine bodyPost_ret (results_cell_row rfl _ _ w.heap.size 32 #[.i o0, .b o1, .u o2, .i o3] (0, 0) _ rfl BR4 Tryz.underlying32 rfl (by kernel_rfl)) rfl ⟨?_, HB4⟩
   rw [← Hf.out]

end Go.Proofs.YteabdeohhmbclaaGreat.Wk
namespace Go.Proofs.YteabdeohhmbclaaGreat.Wk
open Go.RowKit Go.Proofs.Pl Go.Proofs.YteabdeohhmbclaaGreatW.PrintLast
set_option linter.unusedSimpArgs false
set_option linter.unusedVariables false

theorem SlN.lit2 {w : World} {g B : Nat} {T : TypeId} {x y : Num} (h : Blk w g T #[.i x.k, .b x.n, .u x.m, .i x.e, .i y.k, .b y.n, .u y.m, .i y.e]) (hB : g < B) :
  SlN w B (some ⟨g, 0, none⟩) 2 [x, y] := by
 refine ⟨rfl, fun _ => ⟨g, 0, rfl, hB, fun i z hz => ?_⟩⟩
 match i, hz with
 | 0, hz =>
  simp only [List.getElem?_cons_zero, Option.some.injEq] at hz
  subst hz
  exact ⟨h.cell 0, h.cell 1, h.cell 2, h.cell 3⟩
 | 1, hz =>
  simp only [List.getElem?_cons_succ, List.getElem?_cons_zero, Option.some.injEq] at hz
  subst hz
  exact ⟨h.cell 4, h.cell 5, h.cell 6, h.cell 7⟩
 | i + 2, hz => simp at hz

set_option maxRecDepth 100000 in
set_option maxHeartbeats 8000000 in
theorem r8two_calls (a0 : Bool) (a1 : Int) (a2 : Bool) (a3 a4 a5 : Int) (a6 : Bool) (a7 a8 : Int) (b0 : Bool) (b1 : Int) (b2 : Bool) (b3 b4 b5 : Int) (b6 : Bool) (b7 b8 : Int) (w : World) :
  Calls Tryz.prog 25 #[.agg #[.b a0, .i a1, .b a2, .u a3, .i a4, .i a5, .b a6, .u a7, .i a8], .agg #[.b b0, .i b1, .b b2, .u b3, .i b4, .i b5, .b b6, .u b7, .i b8]] w fun e w' => e = .returned (.agg #[.b (twoI ⟨a0, ⟨a1, a2, a3, a4⟩, ⟨a5, a6, a7, a8⟩⟩ ⟨b0, ⟨b1, b2, b3, b4⟩, ⟨b5, b6, b7, b8⟩⟩).emp, .i ((twoI ⟨a0, ⟨a1, a2, a3, a4⟩, ⟨a5, a6, a7, a8⟩⟩ ⟨b0, ⟨b1, b2, b3, b4⟩, ⟨b5, b6, b7, b8⟩⟩).lo).k, .b ((twoI ⟨a0, ⟨a1, a2, a3, a4⟩, ⟨a5, a6, a7, a8⟩⟩ ⟨b0, ⟨b1, b2, b3, b4⟩, ⟨b5, b6, b7, b8⟩⟩).lo).n, .u ((twoI ⟨a0, ⟨a1, a2, a3, a4⟩, ⟨a5, a6, a7, a8⟩⟩ ⟨b0, ⟨b1, b2, b3, b4⟩, ⟨b5, b6, b7, b8⟩⟩).lo).m, .i ((twoI ⟨a0, ⟨a1, a2, a3, a4⟩, ⟨a5, a6, a7, a8⟩⟩ ⟨b0, ⟨b1, b2, b3, b4⟩, ⟨b5, b6, b7, b8⟩⟩).lo).e, .i ((twoI ⟨a0, ⟨a1, a2, a3, a4⟩, ⟨a5, a6, a7, a8⟩⟩ ⟨b0, ⟨b1, b2, b3, b4⟩, ⟨b5, b6, b7, b8⟩⟩).hi).k, .b ((twoI ⟨a0, ⟨a1, a2, a3, a4⟩, ⟨a5, a6, a7, a8⟩⟩ ⟨b0, ⟨b1, b2, b3, b4⟩, ⟨b5, b6, b7, b8⟩⟩).hi).n, .u ((twoI ⟨a0, ⟨a1, a2, a3, a4⟩, ⟨a5, a6, a7, a8⟩⟩ ⟨b0, ⟨b1, b2, b3, b4⟩, ⟨b5, b6, b7, b8⟩⟩).hi).m, .i ((twoI ⟨a0, ⟨a1, a2, a3, a4⟩, ⟨a5, a6, a7, a8⟩⟩ ⟨b0, ⟨b1, b2, b3, b4⟩, ⟨b5, b6, b7, b8⟩⟩).hi).e]) ∧ Below w.heap.size w w' := by
 unfold twoI
 have HF := Lib.hid (fun W => r8fair_calls a0 a1 a2 a3 a4 a5 a6 a7 a8 W)
 have HG := Lib.hid (fun W => r8fair_calls b0 b1 b2 b3 b4 b5 b6 b7 b8 W)
 generalize fairI ⟨a0, ⟨a1, a2, a3, a4⟩, ⟨a5, a6, a7, a8⟩⟩ = c at HF ⊢
 generalize fairI ⟨b0, ⟨b1, b2, b3, b4⟩, ⟨b5, b6, b7, b8⟩⟩ = d at HG ⊢
 obtain ⟨c0, ⟨c1, c2, c3, c4⟩, ⟨c5, c6, c7, c8⟩⟩ := c
 obtain ⟨d0, ⟨d1, d2, d3, d4⟩, ⟨d5, d6, d7, d8⟩⟩ := d
 dsimp only at HF HG ⊢
 have HMo := Lib.hid (fun A W (h : SlN W W.heap.size A 2 [⟨c1, c2, c3, c4⟩, ⟨d1, d2, d3, d4⟩]) => rmostN_calls A 2 2 _ W h (by omega))
 have HLe := Lib.hid (fun A W (h : SlN W W.heap.size A 2 [⟨c5, c6, c7, c8⟩, ⟨d5, d6, d7, d8⟩]) => rleastN_calls A 2 2 _ W h (by omega))
 generalize mostN [⟨c1, c2, c3, c4⟩, ⟨d1, d2, d3, d4⟩] = m at HMo ⊢
 generalize leastN [⟨c5, c6, c7, c8⟩, ⟨d5, d6, d7, d8⟩] = n at HLe ⊢
 obtain ⟨m0, m1, m2, m3⟩ := m
 obtain ⟨n0, n1, n2, n3⟩ := n
 have HMk := Lib.hid (fun W => r8make_calls m0 m1 m2 m3 n0 n1 n2 n3 W)
 generalize makeI ⟨m0, m1, m2, m3⟩ ⟨n0, n1, n2, n3⟩ = r at HMk ⊢
 obtain ⟨r0, ⟨r1, r2, r3, r4⟩, ⟨r5, r6, r7, r8⟩⟩ := r
 dsimp only at HMo HLe HMk ⊢
 have BB := (Blk.new1 w (.cells #[.b a0, .i a1, .b a2, .u a3, .i a4, .i a5, .b a6, .u a7, .i a8] 34) 34 #[.b b0, .i b1, .b b2, .u b3, .i b4, .i b5, .b b6, .u b7, .i b8]).alloc (.cells #[.b false, .i 0, .b false, .u 0, .i 0, .i 0, .b false, .u 0, .i 0] 34)
 have BR0 := (Blk.new2 w (.cells #[.b a0, .i a1, .b a2, .u a3, .i a4, .i a5, .b a6, .u a7, .i a8] 34) (.cells #[.b b0, .i b1, .b b2, .u b3, .i b4, .i b5, .b b6, .u b7, .i b8] 34) 34 #[.b false, .i 0, .b false, .u 0, .i 0, .i 0, .b false, .u 0, .i 0])
 have BR : Blk _ (w.heap.size + 1 + 1) _ _ := BR0
 clear BR0
 have HB := bl_alloc (bl_alloc (bl_alloc (Below.refl w.heap.size w) (.cells #[.b a0, .i a1, .b a2, .u a3, .i a4, .i a5, .b a6, .u a7, .i a8] 34)) (.cells #[.b b0, .i b1, .b b2, .u b3, .i b4, .i b5, .b b6, .u b7, .i b8] 34)) (.cells #[.b false, .i 0, .b false, .u 0, .i 0, .i 0, .b false, .u 0, .i 0] 34)
 go_enter Tryz.func25, Tryz.ntmps25
 go_wp2_with fail
 refine (HF.out _).mono ?_
 rintro e w1 ⟨rfl, hb⟩
 have BB := (BB.call hb).alloc (.cells #[.b c0, .i c1, .b c2, .u c3, .i c4, .i c5, .b c6, .u c7, .i c8] 34)
 have BR := (BR.call hb).alloc (.cells #[.b c0, .i c1, .b c2, .u c3, .i c4, .i c5, .b c6, .u c7, .i c8] 34)
 have HB := bl_alloc (bl_trans HB hb) (.cells #[.b c0, .i c1, .b c2, .u c3, .i c4, .i c5, .b c6, .u c7, .i c8] 34)
 have BC := Blk.new w1 34 #[.b c0, .i c1, .b c2, .u c3, .i c4, .i c5, .b c6, .u c7, .i c8]
 clear hb
 obtain ⟨⟨p0, p1, p2, p3, p4, p5, p6, p7, p8⟩, _⟩ := BB.c9
 go_wp2_with fail
 refine (HG.out _).mono ?_
 rintro e w2 ⟨rfl, hb⟩
 clear p0 p1 p2 p3 p4 p5 p6 p7 p8
 have HB4 := bl_alloc (bl_trans HB hb) (.cells #[.b d0, .i d1, .b d2, .u d3, .i d4, .i d5, .b d6, .u d7, .i d8] 34)
 have BX4 := (BC.call hb).alloc (.cells #[.b d0, .i d1, .b d2, .u d3, .i d4, .i d5, .b d6, .u d7, .i d8] 34)
 have BR4 := (BR.call hb).alloc (.cells #[.b d0, .i d1, .b d2, .u d3, .i d4, .i d5, .b d6, .u d7, .i d8] 34)
 have BY4 := Blk.new w2 34 #[.b d0, .i d1, .b d2, .u d3, .i d4, .i d5, .b d6, .u d7, .i d8]
 clear hb BB BC BR HB HF HG
 cases c0
 ·cases d0
  ·skip
   obtain ⟨⟨p0, p1, p2, p3, p4, p5, p6, p7, p8⟩, _⟩ := BX4.c9
   obtain ⟨⟨r0', r1', r2', r3', r4', r5', r6', r7', r8'⟩, _⟩ := BY4.c9
   go_wp2_with fail
   replace BX4 := BX4.drew
   replace BY4 := BY4.drew
   replace BR4 := BR4.drew
   replace HB4 := bl_drew HB4
   clear p0 p1 p2 p3 p4 p5 p6 p7 p8 r0' r1' r2' r3' r4' r5' r6' r7' r8'
   refine start_ (n := 14) (S := fun w' => w'.cell? ⟨w1.heap.size, 0, none⟩ = some (.b false) ∧ w'.cell? ⟨w1.heap.size, 1, none⟩ = some (.i c1) ∧ w'.cell? ⟨w1.heap.size, 2, none⟩ = some (.b c2) ∧ w'.cell? ⟨w1.heap.size, 3, none⟩ = some (.u c3) ∧ w'.cell? ⟨w1.heap.size, 4, none⟩ = some (.i c4) ∧ w'.cell? ⟨w1.heap.size, 5, none⟩ = some (.i c5) ∧ w'.cell? ⟨w1.heap.size, 6, none⟩ = some (.b c6) ∧ w'.cell? ⟨w1.heap.size, 7, none⟩ = some (.u c7) ∧ w'.cell? ⟨w1.heap.size, 8, none⟩ = some (.i c8) ∧ w'.cell? ⟨w2.heap.size, 0, none⟩ = some (.b false) ∧ w'.cell? ⟨w2.heap.size, 1, none⟩ = some (.i d1) ∧ w'.cell? ⟨w2.heap.size, 2, none⟩ = some (.b d2) ∧ w'.cell? ⟨w2.heap.size, 3, none⟩ = some (.u d3) ∧ w'.cell? ⟨w2.heap.size, 4, none⟩ = some (.i d4) ∧ w'.cell? ⟨w2.heap.size, 5, none⟩ = some (.i d5) ∧ w'.cell? ⟨w2.heap.size, 6, none⟩ = some (.b d6) ∧ w'.cell? ⟨w2.heap.size, 7, none⟩ = some (.u d7) ∧ w'.cell? ⟨w2.heap.size, 8, none⟩ = some (.i d8)) (ds := [13]) (bq 14 0) (by kernel_rfl) rfl rfl ⟨BX4.cell 0, BX4.cell 1, BX4.cell 2, BX4.cell 3, BX4.cell 4, BX4.cell 5, BX4.cell 6, BX4.cell 7, BX4.cell 8, BY4.cell 0, BY4.cell 1, BY4.cell 2, BY4.cell 3, BY4.cell 4, BY4.cell 5, BY4.cell 6, BY4.cell 7, BY4.cell 8⟩ (fun hHeld => ?_)
   generalize hWW : World.drew _ = w3 at BX4 BY4 BR4 HB4 hHeld ⊢
   clear hWW
   refine pu 0 18 (bq 14 1) ?_ ?_ (fun _ => ?_) ?_ ?_
   rotate_left 2
   ·go_simp
    with_reducible rfl
   ·simp only [Act.put, pA, pB, pC]
    rfl
   refine tk 1 19 (bq 14 3) ?_ ?_ ?_ ?_ hHeld ?_
   rotate_left 2
   ·rintro w' ⟨s0_, s1_, s2_, s3_, s4_, s5_, s6_, s7_, s8_, s9_, s10_, s11_, s12_, s13_, s14_, s15_, s16_, s17_⟩
    go_simp
    with_reducible rfl
   ·simp only [Act.put, pA, pB, pC]
    rfl
   refine pu 2 20 (bq 14 7) ?_ ?_ (fun _ => ?_) ?_ ?_
   rotate_left 2
   ·go_simp
    with_reducible rfl
   ·simp only [Act.put, pA, pB, pC]
    rfl
   refine tk 3 21 (bq 14 15) ?_ ?_ ?_ ?_ hHeld ?_
   rotate_left 2
   ·rintro w' ⟨s0_, s1_, s2_, s3_, s4_, s5_, s6_, s7_, s8_, s9_, s10_, s11_, s12_, s13_, s14_, s15_, s16_, s17_⟩
    go_simp
    with_reducible rfl
   ·simp only [Act.put, pA, pB, pC]
    rfl
   refine pu 6 24 (bq 14 79) ?_ ?_ (fun _ => ?_) ?_ ?_
   rotate_left 2
   ·go_simp
    with_reducible rfl
   ·simp only [Act.put, pA, pB, pC]
    rfl
   refine tk 7 25 (bq 14 207) ?_ ?_ ?_ ?_ hHeld ?_
   rotate_left 2
   ·rintro w' ⟨s0_, s1_, s2_, s3_, s4_, s5_, s6_, s7_, s8_, s9_, s10_, s11_, s12_, s13_, s14_, s15_, s16_, s17_⟩
    go_simp
    with_reducible rfl
   ·simp only [Act.put, pA, pB, pC]
    rfl
   refine pu 8 26 (bq 14 463) ?_ ?_ (fun _ => ?_) ?_ ?_
   rotate_left 2
   ·go_simp
    with_reducible rfl
   ·simp only [Act.put, pA, pB, pC]
    rfl
   refine tk 9 27 (bq 14 975) ?_ ?_ ?_ ?_ hHeld ?_
   rotate_left 2
   ·rintro w' ⟨s0_, s1_, s2_, s3_, s4_, s5_, s6_, s7_, s8_, s9_, s10_, s11_, s12_, s13_, s14_, s15_, s16_, s17_⟩
    go_simp
    with_reducible rfl
   ·simp only [Act.put, pA, pB, pC]
    rfl
   refine join_ (σ := Nat × Nat) 3 (bq 14 2047) (fun s => [(22, .slice (some ⟨s.1, 0, none⟩) 2 2), (23, .agg #[.i m0, .b m1, .u m2, .i m3]), (28, .slice (some ⟨s.2, 0, none⟩) 2 2)]) (fun s w' => Blk w' w1.heap.size 34 #[.b false, .i c1, .b c2, .u c3, .i c4, .i c5, .b c6, .u c7, .i c8] ∧ Blk w' w2.heap.size 34 #[.b false, .i d1, .b d2, .u d3, .i d4, .i d5, .b d6, .u d7, .i d8] ∧ Blk w' (w.heap.size + 1 + 1) 34 #[.b false, .i 0, .b false, .u 0, .i 0, .i 0, .b false, .u 0, .i 0] ∧ Below w.heap.size w w' ∧ SlN w' w'.heap.size (some ⟨s.2, 0, none⟩) 2 [⟨c5, c6, c7, c8⟩, ⟨d5, d6, d7, d8⟩]) ?_ (fun hJ => ?_)
   ·skip
    rintro ⟨s1, s2⟩ w6 ⟨BX4, BY4, BR4, HB4, HS⟩
    clear hHeld
    refine norm_ (a' := ?_) ?_ ?_
    rotate_left
    ·simp only [putAll, Act.put, pA, pB, pC]
     rfl
    refine on 11 29 (bq 14 4095) (fun K hK => ?_)
    refine goes_ Tryz.func52 (by kernel_rfl) rfl #[.slice (some ⟨s2, 0, none⟩) 2 2] (by first | rfl | go_simp) rfl rfl (by simp only [List.map_toArray, List.map_cons, List.map_nil] <;> rfl) ?_
    with_reducible refine (HLe.out _ _ HS).mono ?_
    rintro e w7 ⟨rfl, hb⟩
    refine ⟨_, rfl, ?_⟩
    have BX4 := BX4.call hb
    have BY4 := BY4.call hb
    have BR4 := BR4.call hb
    have HB4 := bl_trans HB4 hb
    refine hK.out _ _ ⟨BX4.cell 0, BX4.cell 1, BX4.cell 2, BX4.cell 3, BX4.cell 4, BX4.cell 5, BX4.cell 6, BX4.cell 7, BX4.cell 8, BY4.cell 0, BY4.cell 1, BY4.cell 2, BY4.cell 3, BY4.cell 4, BY4.cell 5, BY4.cell 6, BY4.cell 7, BY4.cell 8⟩ (fun hHeld => ?_)
    clear hK K hb
    refine norm_ (a' := ?_) ?_ ?_
    rotate_left
    ·show Act.put _ (some 29) _ = _
     simp only [Act.put, pA, pB, pC]
     rfl
    refine on 12 30 (bq 14 8191) (fun K hK => ?_)
    refine goes_ Tryz.func50 (by kernel_rfl) rfl #[.agg #[.i m0, .b m1, .u m2, .i m3], .agg #[.i n0, .b n1, .u n2, .i n3]] (by first | rfl | go_simp) rfl rfl (by simp only [List.map_toArray, List.map_cons, List.map_nil] <;> rfl) ?_
    with_reducible refine (HMk.out _).mono ?_
    rintro e w8 ⟨rfl, hb⟩
    refine ⟨_, rfl, ?_⟩
    have BX4 := BX4.call hb
    have BY4 := BY4.call hb
    have BR4 := BR4.call hb
    have HB4 := bl_trans HB4 hb
    refine hK.out _ _ ⟨BX4.cell 0, BX4.cell 1, BX4.cell 2, BX4.cell 3, BX4.cell 4, BX4.cell 5, BX4.cell 6, BX4.cell 7, BX4.cell 8, BY4.cell 0, BY4.cell 1, BY4.cell 2, BY4.cell 3, BY4.cell 4, BY4.cell 5, BY4.cell 6, BY4.cell 7, BY4.cell 8⟩ (fun hHeld => ?_)
    clear hK K hb
    refine norm_ (a' := ?_) ?_ ?_
    rotate_left
    ·show Act.put _ (some 30) _ = _
     simp only [Act.put, pA, pB, pC]
     rfl
    obtain ⟨⟨q0, q1, q2, q3, q4, q5, q6, q7, q8⟩, ⟨f0, f1, f2, f3, f4, f5, f6, f7, f8⟩⟩ := BR4.c9
    obtain ⟨W9, hW9, B9, _, hL9, _⟩ := put9 BR4 (.b r0) (.i r1) (.b r2) (.u r3) (.i r4) (.i r5) (.b r6) (.u r7) (.i r8)
    have HB9 := hL9 w HB4 (by omega)
    refine last_ (i := 13) (N := none) (bq 14 16383) rfl rfl (by kernel_rfl) (by decide) (fun K hK => ?_)
    refine skip_ (w1 := ?_) (by rfl) rfl ?_ ?_
    rotate_left
    ·go_simp
     rfl
    refine hK.out _ _ ?_
    clear hK K
    refine done_ (by kernel_rfl) ?_
    clear hHeld BX4 BY4 BR4 HB4
    go_wp2
    exact bodyPost_ret (results_cell_row rfl _ _ (w.heap.size + 1 + 1) 34 #[.b r0, .i r1, .b r2, .u r3, .i r4, .i r5, .b r6, .u r7, .i r8] (0, 0) _ rfl B9 Tryz.underlying34 rfl (by kernel_rfl)) rfl ⟨rfl, HB9⟩
   ·skip
    refine two_ (i := 4) (j := 10) (Ni := some 22) (Nj := some 28) (bq 14 991) (bq 14 1999) rfl rfl rfl rfl (by kernel_rfl) (by decide) (by decide) (fun K hK => ?_) (fun K hK => ?_)
    ·skip
     refine value_ (v := ?_) (w1 := ?_) (by rfl) rfl ?_ ?_
     rotate_left 2
     ·go_simp
      first | rfl | (constructor <;> rfl)
     have BL := Blk.new w3 32 #[.i c1, .b c2, .u c3, .i c4, .i d1, .b d2, .u d3, .i d4]
     have BX4 := BX4.alloc (.cells #[.i c1, .b c2, .u c3, .i c4, .i d1, .b d2, .u d3, .i d4] 32)
     have BY4 := BY4.alloc (.cells #[.i c1, .b c2, .u c3, .i c4, .i d1, .b d2, .u d3, .i d4] 32)
     have BR4 := BR4.alloc (.cells #[.i c1, .b c2, .u c3, .i c4, .i d1, .b d2, .u d3, .i d4] 32)
     have HB4 := bl_alloc HB4 (.cells #[.i c1, .b c2, .u c3, .i c4, .i d1, .b d2, .u d3, .i d4] 32)
     refine hK.out _ _ ⟨BX4.cell 0, BX4.cell 1, BX4.cell 2, BX4.cell 3, BX4.cell 4, BX4.cell 5, BX4.cell 6, BX4.cell 7, BX4.cell 8, BY4.cell 0, BY4.cell 1, BY4.cell 2, BY4.cell 3, BY4.cell 4, BY4.cell 5, BY4.cell 6, BY4.cell 7, BY4.cell 8⟩ (fun hHeld => ?_)
     clear hK K
     refine norm_ (a' := ?_) ?_ ?_
     rotate_left
     ·show Act.put _ (some 22) _ = _
      simp only [Act.put, pA, pB, pC]
      rfl
     refine two_ (i := 5) (j := 10) (Ni := some 23) (Nj := some 28) (bq 14 1023) (bq 14 2015) rfl rfl rfl rfl (by kernel_rfl) (by decide) (by decide) (fun K hK => ?_) (fun K hK => ?_)
     ·skip
      refine goes_ Tryz.func51 (by kernel_rfl) rfl #[.slice (some ⟨w3.heap.size, 0, none⟩) 2 2] (by first | rfl | go_simp) rfl rfl (by simp only [List.map_toArray, List.map_cons, List.map_nil] <;> rfl) ?_
      with_reducible refine (HMo.out _ _ (SlN.lit2 (x := ⟨c1, c2, c3, c4⟩) (y := ⟨d1, d2, d3, d4⟩) BL BL.lt)).mono ?_
      rintro e w4 ⟨rfl, hb⟩
      refine ⟨_, rfl, ?_⟩
      have BX4 := BX4.call hb
      have BY4 := BY4.call hb
      have BR4 := BR4.call hb
      have HB4 := bl_trans HB4 hb
      refine hK.out _ _ ⟨BX4.cell 0, BX4.cell 1, BX4.cell 2, BX4.cell 3, BX4.cell 4, BX4.cell 5, BX4.cell 6, BX4.cell 7, BX4.cell 8, BY4.cell 0, BY4.cell 1, BY4.cell 2, BY4.cell 3, BY4.cell 4, BY4.cell 5, BY4.cell 6, BY4.cell 7, BY4.cell 8⟩ (fun hHeld => ?_)
      clear hK K hb
      refine norm_ (a' := ?_) ?_ ?_
      rotate_left
      ·show Act.put _ (some 23) _ = _
       simp only [Act.put, pA, pB, pC]
       rfl
      refine on 10 28 (bq 14 2047) (fun K hK => ?_)
      refine value_ (v := ?_) (w1 := ?_) (by rfl) rfl ?_ ?_
      rotate_left 2
      ·go_simp
       first | rfl | (constructor <;> rfl)
      have BL2 := Blk.new w4 32 #[.i c5, .b c6, .u c7, .i c8, .i d5, .b d6, .u d7, .i d8]
      have BX4 := BX4.alloc (.cells #[.i c5, .b c6, .u c7, .i c8, .i d5, .b d6, .u d7, .i d8] 32)
      have BY4 := BY4.alloc (.cells #[.i c5, .b c6, .u c7, .i c8, .i d5, .b d6, .u d7, .i d8] 32)
      have BR4 := BR4.alloc (.cells #[.i c5, .b c6, .u c7, .i c8, .i d5, .b d6, .u d7, .i d8] 32)
      have HB4 := bl_alloc HB4 (.cells #[.i c5, .b c6, .u c7, .i c8, .i d5, .b d6, .u d7, .i d8] 32)
      refine hK.out _ _ ⟨BX4.cell 0, BX4.cell 1, BX4.cell 2, BX4.cell 3, BX4.cell 4, BX4.cell 5, BX4.cell 6, BX4.cell 7, BX4.cell 8, BY4.cell 0, BY4.cell 1, BY4.cell 2, BY4.cell 3, BY4.cell 4, BY4.cell 5, BY4.cell 6, BY4.cell 7, BY4.cell 8⟩ (fun hHeld => ?_)
      exact norm_ (by rfl) (hJ (w3.heap.size, w4.heap.size) _ ⟨BX4, BY4, BR4, HB4, (SlN.lit2 (x := ⟨c5, c6, c7, c8⟩) (y := ⟨d5, d6, d7, d8⟩) BL2 BL2.lt)⟩)
     ·skip
      refine value_ (v := ?_) (w1 := ?_) (by rfl) rfl ?_ ?_
      rotate_left 2
      ·go_simp
       first | rfl | (constructor <;> rfl)
      have BL2 := Blk.new1 w3 (.cells #[.i c1, .b c2, .u c3, .i c4, .i d1, .b d2, .u d3, .i d4] 32) 32 #[.i c5, .b c6, .u c7, .i c8, .i d5, .b d6, .u d7, .i d8]
      have BL := BL.alloc (.cells #[.i c5, .b c6, .u c7, .i c8, .i d5, .b d6, .u d7, .i d8] 32)
      have BX4 := BX4.alloc (.cells #[.i c5, .b c6, .u c7, .i c8, .i d5, .b d6, .u d7, .i d8] 32)
      have BY4 := BY4.alloc (.cells #[.i c5, .b c6, .u c7, .i c8, .i d5, .b d6, .u d7, .i d8] 32)
      have BR4 := BR4.alloc (.cells #[.i c5, .b c6, .u c7, .i c8, .i d5, .b d6, .u d7, .i d8] 32)
      have HB4 := bl_alloc HB4 (.cells #[.i c5, .b c6, .u c7, .i c8, .i d5, .b d6, .u d7, .i d8] 32)
      refine hK.out _ _ ⟨BX4.cell 0, BX4.cell 1, BX4.cell 2, BX4.cell 3, BX4.cell 4, BX4.cell 5, BX4.cell 6, BX4.cell 7, BX4.cell 8, BY4.cell 0, BY4.cell 1, BY4.cell 2, BY4.cell 3, BY4.cell 4, BY4.cell 5, BY4.cell 6, BY4.cell 7, BY4.cell 8⟩ (fun hHeld => ?_)
      clear hK K
      refine norm_ (a' := ?_) ?_ ?_
      rotate_left
      ·show Act.put _ (some 28) _ = _
       simp only [Act.put, pA, pB, pC]
       rfl
      refine on 5 23 (bq 14 2047) (fun K hK => ?_)
      refine goes_ Tryz.func51 (by kernel_rfl) rfl #[.slice (some ⟨w3.heap.size, 0, none⟩) 2 2] (by first | rfl | go_simp) rfl rfl (by simp only [List.map_toArray, List.map_cons, List.map_nil] <;> rfl) ?_
      with_reducible refine (HMo.out _ _ (SlN.lit2 (x := ⟨c1, c2, c3, c4⟩) (y := ⟨d1, d2, d3, d4⟩) BL BL.lt)).mono ?_
      rintro e w4 ⟨rfl, hb⟩
      refine ⟨_, rfl, ?_⟩
      have BX4 := BX4.call hb
      have BY4 := BY4.call hb
      have BR4 := BR4.call hb
      have HB4 := bl_trans HB4 hb
      have BL2 := BL2.call hb
      refine hK.out _ _ ⟨BX4.cell 0, BX4.cell 1, BX4.cell 2, BX4.cell 3, BX4.cell 4, BX4.cell 5, BX4.cell 6, BX4.cell 7, BX4.cell 8, BY4.cell 0, BY4.cell 1, BY4.cell 2, BY4.cell 3, BY4.cell 4, BY4.cell 5, BY4.cell 6, BY4.cell 7, BY4.cell 8⟩ (fun hHeld => ?_)
      exact norm_ (by rfl) (hJ (w3.heap.size, w3.heap.size + 1) _ ⟨BX4, BY4, BR4, HB4, (SlN.lit2 (x := ⟨c5, c6, c7, c8⟩) (y := ⟨d5, d6, d7, d8⟩) BL2 BL2.lt)⟩)
    ·skip
     refine value_ (v := ?_) (w1 := ?_) (by rfl) rfl ?_ ?_
     rotate_left 2
     ·go_simp
      first | rfl | (constructor <;> rfl)
     have BL2 := Blk.new w3 32 #[.i c5, .b c6, .u c7, .i c8, .i d5, .b d6, .u d7, .i d8]
     have BX4 := BX4.alloc (.cells #[.i c5, .b c6, .u c7, .i c8, .i d5, .b d6, .u d7, .i d8] 32)
     have BY4 := BY4.alloc (.cells #[.i c5, .b c6, .u c7, .i c8, .i d5, .b d6, .u d7, .i d8] 32)
     have BR4 := BR4.alloc (.cells #[.i c5, .b c6, .u c7, .i c8, .i d5, .b d6, .u d7, .i d8] 32)
     have HB4 := bl_alloc HB4 (.cells #[.i c5, .b c6, .u c7, .i c8, .i d5, .b d6, .u d7, .i d8] 32)
     refine hK.out _ _ ⟨BX4.cell 0, BX4.cell 1, BX4.cell 2, BX4.cell 3, BX4.cell 4, BX4.cell 5, BX4.cell 6, BX4.cell 7, BX4.cell 8, BY4.cell 0, BY4.cell 1, BY4.cell 2, BY4.cell 3, BY4.cell 4, BY4.cell 5, BY4.cell 6, BY4.cell 7, BY4.cell 8⟩ (fun hHeld => ?_)
     clear hK K
     refine norm_ (a' := ?_) ?_ ?_
     rotate_left
     ·show Act.put _ (some 28) _ = _
      simp only [Act.put, pA, pB, pC]
      rfl
     refine on 4 22 (bq 14 2015) (fun K hK => ?_)
     refine value_ (v := ?_) (w1 := ?_) (by rfl) rfl ?_ ?_
     rotate_left 2
     ·go_simp
      first | rfl | (constructor <;> rfl)
     have BL := Blk.new1 w3 (.cells #[.i c5, .b c6, .u c7, .i c8, .i d5, .b d6, .u d7, .i d8] 32) 32 #[.i c1, .b c2, .u c3, .i c4, .i d1, .b d2, .u d3, .i d4]
     have BL2 := BL2.alloc (.cells #[.i c1, .b c2, .u c3, .i c4, .i d1, .b d2, .u d3, .i d4] 32)
     have BX4 := BX4.alloc (.cells #[.i c1, .b c2, .u c3, .i c4, .i d1, .b d2, .u d3, .i d4] 32)
     have BY4 := BY4.alloc (.cells #[.i c1, .b c2, .u c3, .i c4, .i d1, .b d2, .u d3, .i d4] 32)
     have BR4 := BR4.alloc (.cells #[.i c1, .b c2, .u c3, .i c4, .i d1, .b d2, .u d3, .i d4] 32)
     have HB4 := bl_alloc HB4 (.cells #[.i c1, .b c2, .u c3, .i c4, .i d1, .b d2, .u d3, .i d4] 32)
     refine hK.out _ _ ⟨BX4.cell 0, BX4.cell 1, BX4.cell 2, BX4.cell 3, BX4.cell 4, BX4.cell 5, BX4.cell 6, BX4.cell 7, BX4.cell 8, BY4.cell 0, BY4.cell 1, BY4.cell 2, BY4.cell 3, BY4.cell 4, BY4.cell 5, BY4.cell 6, BY4.cell 7, BY4.cell 8⟩ (fun hHeld => ?_)
     clear hK K
     refine norm_ (a' := ?_) ?_ ?_
     rotate_left
     ·show Act.put _ (some 22) _ = _
      simp only [Act.put, pA, pB, pC]
      rfl
     refine on 5 23 (bq 14 2047) (fun K hK => ?_)
     refine goes_ Tryz.func51 (by kernel_rfl) rfl #[.slice (some ⟨w3.heap.size + 1, 0, none⟩) 2 2] (by first | rfl | go_simp) rfl rfl (by simp only [List.map_toArray, List.map_cons, List.map_nil] <;> rfl) ?_
     with_reducible refine (HMo.out _ _ (SlN.lit2 (x := ⟨c1, c2, c3, c4⟩) (y := ⟨d1, d2, d3, d4⟩) BL BL.lt)).mono ?_
     rintro e w4 ⟨rfl, hb⟩
     refine ⟨_, rfl, ?_⟩
     have BX4 := BX4.call hb
     have BY4 := BY4.call hb
     have BR4 := BR4.call hb
     have HB4 := bl_trans HB4 hb
     have BL2 := BL2.call hb
     refine hK.out _ _ ⟨BX4.cell 0, BX4.cell 1, BX4.cell 2, BX4.cell 3, BX4.cell 4, BX4.cell 5, BX4.cell 6, BX4.cell 7, BX4.cell 8, BY4.cell 0, BY4.cell 1, BY4.cell 2, BY4.cell 3, BY4.cell 4, BY4.cell 5, BY4.cell 6, BY4.cell 7, BY4.cell 8⟩ (fun hHeld => ?_)
     exact norm_ (by rfl) (hJ (w3.heap.size + 1, w3.heap.size) _ ⟨BX4, BY4, BR4, HB4, (SlN.lit2 (x := ⟨c5, c6, c7, c8⟩) (y := ⟨d5, d6, d7, d8⟩) BL2 BL2.lt)⟩)
  ·skip
   obtain ⟨⟨p0, p1, p2, p3, p4, p5, p6, p7, p8⟩, _⟩ := BX4.c9
   obtain ⟨⟨r0', r1', r2', r3', r4', r5', r6', r7', r8'⟩, _⟩ := BY4.c9
   go_wp2_with (go_at_call 49; refine (r8none_lit _).mono ?_; rintro e w3 ⟨rfl, hb⟩; have BR4 := BR4.call hb; have HB4 := bl_trans HB4 hb; obtain ⟨⟨q0, q1, q2, q3, q4, q5, q6, q7, q8⟩, ⟨f0, f1, f2, f3, f4, f5, f6, f7, f8⟩⟩ := BR4.c9; obtain ⟨W9, hW9, B9, _, hL9, _⟩ := put9 BR4 (.b true) (.i 0) (.b false) (.u 0) (.i 0) (.i 0) (.b false) (.u 0) (.i 0); have HB9 := hL9 w HB4 (by omega))
   exact bodyPost_ret (results_cell_row rfl _ _ (w.heap.size + 1 + 1) 34 #[.b true, .i 0, .b false, .u 0, .i 0, .i 0, .b false, .u 0, .i 0] (0, 0) _ rfl B9 Tryz.underlying34 rfl (by kernel_rfl)) rfl ⟨rfl, HB9⟩
 ·skip
  obtain ⟨⟨p0, p1, p2, p3, p4, p5, p6, p7, p8⟩, _⟩ := BX4.c9
  obtain ⟨⟨r0', r1', r2', r3', r4', r5', r6', r7', r8'⟩, _⟩ := BY4.c9
  go_wp2_with (go_at_call 49; refine (r8none_lit _).mono ?_; rintro e w3 ⟨rfl, hb⟩; have BR4 := BR4.call hb; have HB4 := bl_trans HB4 hb; obtain ⟨⟨q0, q1, q2, q3, q4, q5, q6, q7, q8⟩, ⟨f0, f1, f2, f3, f4, f5, f6, f7, f8⟩⟩ := BR4.c9; obtain ⟨W9, hW9, B9, _, hL9, _⟩ := put9 BR4 (.b true) (.i 0) (.b false) (.u 0) (.i 0) (.i 0) (.b false) (.u 0) (.i 0); have HB9 := hL9 w HB4 (by omega))
  exact bodyPost_ret (results_cell_row rfl _ _ (w.heap.size + 1 + 1) 34 #[.b true, .i 0, .b false, .u 0, .i 0, .i 0, .b false, .u 0, .i 0] (0, 0) _ rfl B9 Tryz.underlying34 rfl (by kernel_rfl)) rfl ⟨rfl, HB9⟩

end Go.Proofs.YteabdeohhmbclaaGreat.Wk
