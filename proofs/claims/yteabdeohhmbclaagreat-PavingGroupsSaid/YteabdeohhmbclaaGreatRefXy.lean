/- Walks: what the reference's small functions of numbers compute: they are num's. -/
import Derived.Test.YteabdeohhmbclaaGreatNumXy
import Derived.Test.YteabdeohhmbclaaGreatIvAy
import Derived.Test.YteabdeohhmbclaaGreatPureAy
namespace Go.Proofs.YteabdeohhmbclaaGreat.Wk
open Go.RowKit Go.Proofs.Pl Go.Proofs.YteabdeohhmbclaaGreatW.PrintLast
set_option linter.unusedSimpArgs false
set_option linter.unusedVariables false

set_option maxHeartbeats 2000000 in
theorem rmayN_calls (a0 : Int) (a1 : Bool) (a2 a3 : Int) (w : World) :
  Calls Tryz.prog 80 #[.agg #[.i a0, .b a1, .u a2, .i a3]] w fun e w' => e = .returned (.b (mayN ⟨a0, a1, a2, a3⟩)) ∧ Below w.heap.size w w' := by
 go_enter Tryz.func80, Tryz.ntmps80
 go_wp2
 all_goals go_ret
 all_goals refine ⟨?_, (Below.refl _ _).alloc (Nat.le_refl _) _⟩
 all_goals (simp_all [mayN]; try first | omega | (rw [Bool.eq_iff_iff]; simp))

set_option maxHeartbeats 400000 in
theorem rfairN_calls (a0 : Int) (a1 : Bool) (a2 a3 : Int) (w : World) :
  Calls Tryz.prog 73 #[.agg #[.i a0, .b a1, .u a2, .i a3]] w fun e w' => e = .returned (.agg #[.i (fairN ⟨a0, a1, a2, a3⟩).k, .b (fairN ⟨a0, a1, a2, a3⟩).n, .u (fairN ⟨a0, a1, a2, a3⟩).m, .i (fairN ⟨a0, a1, a2, a3⟩).e]) ∧ Below w.heap.size w w' := by
 go_enter Tryz.func73, Tryz.ntmps73
 go_wp2_with (go_at_call 80; refine (rmayN_calls _ _ _ _ _).mono ?_; rintro e w1 ⟨rfl, hb⟩; have HB := bl_trans (bl_alloc (bl_alloc (Below.refl w.heap.size w) _) _) hb; have hz := hb.size; obtain ⟨hc, hf⟩ := bcell hb; clear hb)
 all_goals refine bodyPost_ret (v := _) (by simp [results, Tryz.results73, go_sem, hc]; rfl) rfl ⟨?_, ?_⟩
 all_goals first
  | (simp_all [fairN, zero]; done)
  | (repeat (first | exact HB | refine bl_set ?_ (by simp) _ | apply bl_alloc))

set_option maxHeartbeats 400000 in
theorem r6fairN_calls (a0 : Int) (a1 : Bool) (a2 a3 : Int) (w : World) :
  Calls Tryz.prog 70 #[.agg #[.i a0, .b a1, .u a2, .i a3]] w fun e w' => e = .returned (.agg #[.i (fairN ⟨a0, a1, a2, a3⟩).k, .b (fairN ⟨a0, a1, a2, a3⟩).n, .u (fairN ⟨a0, a1, a2, a3⟩).m, .i (fairN ⟨a0, a1, a2, a3⟩).e]) ∧ Below w.heap.size w w' := by
 go_enter Tryz.func70, Tryz.ntmps70
 go_wp2_with (go_at_call 80; refine (rmayN_calls _ _ _ _ _).mono ?_; rintro e w1 ⟨rfl, hb⟩; have HB := bl_trans (bl_alloc (bl_alloc (Below.refl w.heap.size w) _) _) hb; have hz := hb.size; obtain ⟨hc, hf⟩ := bcell hb; clear hb)
 all_goals refine bodyPost_ret (v := _) (by simp [results, Tryz.results70, go_sem, hc]; rfl) rfl ⟨?_, ?_⟩
 all_goals first
  | (simp_all [fairN, zero]; done)
  | (repeat (first | exact HB | refine bl_set ?_ (by simp) _ | apply bl_alloc))

set_option maxHeartbeats 400000 in
theorem rinfN_calls (b : Bool) (w : World) :
  Calls Tryz.prog 71 #[.b b] w fun e w' => e = .returned (.agg #[.i (infN b).k, .b (infN b).n, .u (infN b).m, .i (infN b).e]) ∧ Below w.heap.size w w' := by
 go_enter Tryz.func71, Tryz.ntmps71
 go_wp2
 all_goals refine bodyPost_ret (v := _) (by simp [results, Tryz.results71, go_sem]; rfl) rfl ⟨?_, ?_⟩
 all_goals first
  | (simp_all [infN]; done)
  | (repeat (first | exact Below.refl _ _ | refine bl_set ?_ (by simp) _ | apply bl_alloc))

set_option maxHeartbeats 400000 in
theorem rsignN_calls (a0 : Int) (a1 : Bool) (a2 a3 : Int) (w : World) :
  Calls Tryz.prog 81 #[.agg #[.i a0, .b a1, .u a2, .i a3]] w fun e w' => e = .returned (.i (signN ⟨a0, a1, a2, a3⟩)) ∧ Below w.heap.size w w' := by
 go_enter Tryz.func81, Tryz.ntmps81
 go_wp2_with (go_at_call 73; refine (rfairN_calls _ _ _ _ _).mono ?_; rintro e w1 ⟨rfl, hb⟩; have HB := bl_trans (bl_alloc (Below.refl w.heap.size w) _) hb; have hz := hb.size; obtain ⟨hc, hf⟩ := bcell hb; clear hb)
 all_goals go_ret
 all_goals refine ⟨?_, ?_⟩
 all_goals first
  | (simp_all [signN, signF]; done)
  | (repeat (first | exact HB | refine bl_set ?_ (by simp) _ | apply bl_alloc))

end Go.Proofs.YteabdeohhmbclaaGreat.Wk
namespace Go.Proofs.YteabdeohhmbclaaGreat.Wk
open Go.RowKit Go.Proofs.Pl Go.Proofs.YteabdeohhmbclaaGreatW.PrintLast
set_option linter.unusedSimpArgs false
set_option linter.unusedVariables false

theorem mayN_fair' (x : Num) : mayN (fairN x) = true := by
 unfold fairN
 split
 ·assumption
 ·decide +kernel
def rcmpF (c d : Num) : Int :=
 if signN c ≠ signN d then (if signN c < signN d then -1 else 1)
 else if signN c = 0 ∨ decide (c = d) = true then 0
 else if (c.k = 2 ∨ (d.k ≠ 2 ∧ (d.e < c.e ∨ (c.e = d.e ∧ d.m < c.m)))) then signN c else -(signN c)
theorem may_cases' {x : Num} (h : mayN x = true) : (x.k = 0 ∧ x.n = false ∧ x.m = 0 ∧ x.e = 0) ∨ (x.k = 1) ∨ (x.k = 2 ∧ x.m = 0 ∧ x.e = 0) := by
 unfold mayN at h
 split at h
 ·next h0 => simp at h; exact .inl ⟨h0, h.1.1, h.1.2, h.2⟩
 ·split at h
  ·next h1 => exact .inr (.inl h1)
  ·simp at h; exact .inr (.inr h)
theorem sign_may {x : Num} (h : mayN x = true) : signN x = if x.k = 0 then 0 else if x.n = true then -1 else 1 := by
 unfold signN fairN signF
 rw [if_pos h]
theorem rcmp_eq {c d : Num} (hc : mayN c = true) (hd : mayN d = true) : rcmpF c d = cmpF c d := by
 obtain ⟨c0, c1, c2, c3⟩ := c
 obtain ⟨d0, d1, d2, d3⟩ := d
 unfold rcmpF cmpF farN
 simp only [decide_eq_true_eq]
 rw [sign_may hc, sign_may hd]
 have h1 := may_cases' hc
 have h2 := may_cases' hd
 clear hc hd
 dsimp only at h1 h2 ⊢
 rcases h1 with ⟨rfl, rfl, rfl, rfl⟩ | rfl | ⟨rfl, rfl, rfl⟩ <;> rcases h2 with ⟨rfl, rfl, rfl, rfl⟩ | rfl | ⟨rfl, rfl, rfl⟩ <;> simp only [Num.mk.injEq] <;> (try cases c1) <;> (try cases d1) <;> simp
 all_goals (repeat' split)
 all_goals (first | rfl | omega | skip)

set_option maxRecDepth 100000 in
set_option maxHeartbeats 4000000 in
theorem rcmpN_calls (a0 : Int) (a1 : Bool) (a2 a3 : Int) (b0 : Int) (b1 : Bool) (b2 b3 : Int) (w : World) :
  Calls Tryz.prog 72 #[.agg #[.i a0, .b a1, .u a2, .i a3], .agg #[.i b0, .b b1, .u b2, .i b3]] w fun e w' => e = .returned (.i (cmpN ⟨a0, a1, a2, a3⟩ ⟨b0, b1, b2, b3⟩)) ∧ Below w.heap.size w w' := by
 unfold cmpN
 rw [← rcmp_eq (mayN_fair' _) (mayN_fair' _)]
 have HF := Lib.hid (fun W => rfairN_calls a0 a1 a2 a3 W)
 have HG := Lib.hid (fun W => rfairN_calls b0 b1 b2 b3 W)
 generalize fairN ⟨a0, a1, a2, a3⟩ = F at HF ⊢
 generalize fairN ⟨b0, b1, b2, b3⟩ = G at HG ⊢
 obtain ⟨c0, c1, c2, c3⟩ := F
 obtain ⟨d0, d1, d2, d3⟩ := G
 dsimp only at HF HG
 unfold rcmpF
 have HS := Lib.hid (fun W => rsignN_calls c0 c1 c2 c3 W)
 have HT := Lib.hid (fun W => rsignN_calls d0 d1 d2 d3 W)
 have sb := signN_bd ⟨c0, c1, c2, c3⟩
 generalize signN ⟨c0, c1, c2, c3⟩ = s at HS sb ⊢
 generalize signN ⟨d0, d1, d2, d3⟩ = t at HT ⊢
 have e1 := fun W => run_eqNum W c0 d0 c1 d1 c2 d2 c3 d3
 generalize (decide ((⟨c0, c1, c2, c3⟩ : Num) = ⟨d0, d1, d2, d3⟩)) = q at e1 ⊢
 obtain ⟨sb0, sb1⟩ := sb
 go_enter Tryz.func72, Tryz.ntmps72
 go_wp2_with fail
 have BA := ((Blk.new w 32 #[.i a0, .b a1, .u a2, .i a3]).alloc (.cells #[.i b0, .b b1, .u b2, .i b3] 32))
 have BB := (Blk.new1 w (.cells #[.i a0, .b a1, .u a2, .i a3] 32) 32 #[.i b0, .b b1, .u b2, .i b3])
 have HB := bl_alloc (bl_alloc (Below.refl w.heap.size w) (.cells #[.i a0, .b a1, .u a2, .i a3] 32)) (.cells #[.i b0, .b b1, .u b2, .i b3] 32)
 refine (HF.out _).mono ?_
 rintro e w1 ⟨rfl, hb⟩
 have BA := (BA.call hb).alloc (.cells #[.i c0, .b c1, .u c2, .i c3] 32)
 have BB := (BB.call hb).alloc (.cells #[.i c0, .b c1, .u c2, .i c3] 32)
 have HB := bl_alloc (bl_trans HB hb) (.cells #[.i c0, .b c1, .u c2, .i c3] 32)
 have BC := Blk.new w1 32 #[.i c0, .b c1, .u c2, .i c3]
 clear hb
 obtain ⟨⟨p0, p1, p2, p3⟩, _⟩ := BB.c4
 go_wp2_with fail
 refine (HG.out _).mono ?_
 rintro e w2 ⟨rfl, hb⟩
 clear p0 p1 p2 p3
 have HB := bl_alloc (bl_trans HB hb) (.cells #[.i d0, .b d1, .u d2, .i d3] 32)
 have BC := (BC.call hb).alloc (.cells #[.i d0, .b d1, .u d2, .i d3] 32)
 have BD := Blk.new w2 32 #[.i d0, .b d1, .u d2, .i d3]
 clear hb BA BB
 obtain ⟨⟨p0, p1, p2, p3⟩, _⟩ := BC.c4
 obtain ⟨⟨r0, r1, r2, r3⟩, _⟩ := BD.c4
 go_wp2_with fail
 refine (HS.out _).mono ?_
 rintro e w3 ⟨rfl, hb⟩
 clear p0 p1 p2 p3 r0 r1 r2 r3
 have HB := bl_trans HB hb
 have BC := BC.call hb
 have BD := BD.call hb
 clear hb
 obtain ⟨⟨p0, p1, p2, p3⟩, _⟩ := BC.c4
 obtain ⟨⟨r0, r1, r2, r3⟩, _⟩ := BD.c4
 go_wp2_with fail
 refine (HT.out _).mono ?_
 rintro e w4 ⟨rfl, hb⟩
 clear p0 p1 p2 p3 r0 r1 r2 r3
 have HB := bl_trans HB hb
 have BC := BC.call hb
 have BD := BD.call hb
 clear hb
 obtain ⟨⟨p0, p1, p2, p3⟩, _⟩ := BC.c4
 obtain ⟨⟨r0, r1, r2, r3⟩, _⟩ := BD.c4
 by_cases hst : s = t
 ·subst hst
  by_cases hs0 : s = 0
  ·subst hs0
   go_wp2
   all_goals go_ret
   all_goals exact ⟨by simp, HB⟩
  ·have hs0' : (s == 0) = false := beq_eq_false_iff_ne.2 hs0
   cases q
   ·go_wp2
    all_goals go_ret
    all_goals refine ⟨?_, HB⟩
    all_goals (try simp only [ne_eq, not_true_eq_false, if_false, hs0, Bool.false_eq_true, or_self])
    all_goals first | (simp_all; done) | (simp_all; omega) | (split <;> first | rfl | (simp_all; done) | (simp_all; omega)) | trace_state
   ·go_wp2
    all_goals go_ret
    all_goals exact ⟨by simp, HB⟩
 ·have hst' : (s != t) = true := bne_iff_ne.2 hst
  by_cases hlt : s < t
  ·go_wp2
   all_goals go_ret
   all_goals exact ⟨by simp [hst, hlt], HB⟩
  ·go_wp2
   all_goals go_ret
   all_goals exact ⟨by simp [hst, hlt], HB⟩
end Go.Proofs.YteabdeohhmbclaaGreat.Wk
namespace Go.Proofs.YteabdeohhmbclaaGreat.Wk
open Go.RowKit Go.Proofs.Pl Go.Proofs.YteabdeohhmbclaaGreatW.PrintLast
set_option linter.unusedSimpArgs false
set_option linter.unusedVariables false

set_option maxHeartbeats 400000 in
theorem r8none_calls (w : World) :
  Calls Tryz.prog 49 #[] w fun e w' => e = .returned (.agg #[.b (noneI).emp, .i ((noneI).lo).k, .b ((noneI).lo).n, .u ((noneI).lo).m, .i ((noneI).lo).e, .i ((noneI).hi).k, .b ((noneI).hi).n, .u ((noneI).hi).m, .i ((noneI).hi).e]) ∧ Below w.heap.size w w' := by
 go_enter Tryz.func49, Tryz.ntmps49
 go_wp2
 refine bodyPost_ret (v := _) (by simp [results, Tryz.results49, go_sem]; rfl) rfl ⟨by rfl, ?_⟩
 repeat (first | exact Below.refl _ _ | refine bl_set ?_ (by simp) _ | apply bl_alloc)

theorem rinfN_lit (b : Bool) (w : World) :
  Calls Tryz.prog 71 #[.b b] w fun e w' => e = .returned (.agg #[.i 2, .b b, .u 0, .i 0]) ∧ Below w.heap.size w w' := rinfN_calls b w
theorem r8none_lit (w : World) :
  Calls Tryz.prog 49 #[] w fun e w' => e = .returned (.agg #[.b true, .i 0, .b false, .u 0, .i 0, .i 0, .b false, .u 0, .i 0]) ∧ Below w.heap.size w w' := r8none_calls w

set_option maxRecDepth 100000 in
set_option maxHeartbeats 4000000 in
theorem r8may_calls (a0 : Bool) (a1 : Int) (a2 : Bool) (a3 a4 a5 : Int) (a6 : Bool) (a7 a8 : Int) (w : World) :
  Calls Tryz.prog 69 #[.agg #[.b a0, .i a1, .b a2, .u a3, .i a4, .i a5, .b a6, .u a7, .i a8]] w fun e w' => e = .returned (.b (mayI ⟨a0, ⟨a1, a2, a3, a4⟩, ⟨a5, a6, a7, a8⟩⟩)) ∧ Below w.heap.size w w' := by
 unfold mayI
 dsimp only
 have HP := Lib.hid (fun W => rmayN_calls a1 a2 a3 a4 W)
 have HQ := Lib.hid (fun W => rmayN_calls a5 a6 a7 a8 W)
 have HC := Lib.hid (fun W => rcmpN_calls a1 a2 a3 a4 a5 a6 a7 a8 W)
 have hn := fun W => run_eqIv W a0 true a1 0 a2 false a3 0 a4 0 a5 0 a6 false a7 0 a8 0
 have hl := fun W => run_neNum W a1 2 a2 false a3 0 a4 0
 have hh := fun W => run_neNum W a5 2 a6 true a7 0 a8 0
 change ∀ W, (binOp .eql _ _ _).run _ W = .ok (.b (decide ((⟨a0, ⟨a1, a2, a3, a4⟩, ⟨a5, a6, a7, a8⟩⟩ : Iv) = noneI))) W at hn
 change ∀ W, (binOp .neq _ _ _).run _ W = .ok (.b (!decide ((⟨a1, a2, a3, a4⟩ : Num) = infN false))) W at hl
 change ∀ W, (binOp .neq _ _ _).run _ W = .ok (.b (!decide ((⟨a5, a6, a7, a8⟩ : Num) = infN true))) W at hh
 generalize mayN ⟨a1, a2, a3, a4⟩ = p at HP ⊢
 generalize mayN ⟨a5, a6, a7, a8⟩ = q at HQ ⊢
 generalize cmpN ⟨a1, a2, a3, a4⟩ ⟨a5, a6, a7, a8⟩ = c at HC ⊢
 generalize decide ((⟨a0, ⟨a1, a2, a3, a4⟩, ⟨a5, a6, a7, a8⟩⟩ : Iv) = noneI) = n at hn ⊢
 generalize (!decide ((⟨a1, a2, a3, a4⟩ : Num) = infN false)) = l at hl ⊢
 generalize (!decide ((⟨a5, a6, a7, a8⟩ : Num) = infN true)) = h at hh ⊢
 cases a0
 ·clear hn
  go_enter Tryz.func69, Tryz.ntmps69
  go_wp2_with fail
  have BX := Blk.new w 34 (#[.b false, .i a1, .b a2, .u a3, .i a4, .i a5, .b a6, .u a7, .i a8])
  have HBX := bl_alloc (Below.refl w.heap.size w) (.cells #[.b false, .i a1, .b a2, .u a3, .i a4, .i a5, .b a6, .u a7, .i a8] 34)
  refine (HP.out _).mono ?_
  rintro e w1 ⟨rfl, hb⟩
  have BX := BX.call hb
  have HBX := bl_trans HBX hb
  clear hb
  obtain ⟨⟨p0, p1, p2, p3, p4, p5, p6, p7, p8⟩, _⟩ := BX.c9
  go_wp2_with fail
  refine (HQ.out _).mono ?_
  rintro e w2 ⟨rfl, hb⟩
  clear p0 p1 p2 p3 p4 p5 p6 p7 p8
  have BX := BX.call hb
  have HBX := bl_trans HBX hb
  clear hb
  go_wp2_with fail
  replace BX := BX.drew
  replace HBX := bl_drew HBX
  cases p
  ·skip
   refine start_ (n := 25) (S := fun w' => w'.cell? ⟨w.heap.size, 0, none⟩ = some (.b false) ∧ w'.cell? ⟨w.heap.size, 1, none⟩ = some (.i a1) ∧ w'.cell? ⟨w.heap.size, 2, none⟩ = some (.b a2) ∧ w'.cell? ⟨w.heap.size, 3, none⟩ = some (.u a3) ∧ w'.cell? ⟨w.heap.size, 4, none⟩ = some (.i a4) ∧ w'.cell? ⟨w.heap.size, 5, none⟩ = some (.i a5) ∧ w'.cell? ⟨w.heap.size, 6, none⟩ = some (.b a6) ∧ w'.cell? ⟨w.heap.size, 7, none⟩ = some (.u a7) ∧ w'.cell? ⟨w.heap.size, 8, none⟩ = some (.i a8)) (ds := []) (bq 25 0) (by kernel_rfl) rfl rfl ⟨BX.cell 0, BX.cell 1, BX.cell 2, BX.cell 3, BX.cell 4, BX.cell 5, BX.cell 6, BX.cell 7, BX.cell 8⟩ (fun hHeld => ?_)
   generalize hW2 : World.drew _ = W2 at BX HBX hHeld ⊢
   clear hW2
   refine pu 0 16 (bq 25 1) ?_ ?_ (fun _ => ?_) ?_ ?_
   rotate_left 2
   ·go_simp
    with_reducible rfl
   ·simp only [Act.put, pA, pB, pC]
    rfl
   refine pu 1 17 (bq 25 3) ?_ ?_ (fun _ => ?_) ?_ ?_
   rotate_left 2
   ·go_simp
    with_reducible rfl
   ·simp only [Act.put, pA, pB, pC]
    rfl
   refine po 2 18 (bq 25 7) ?_ ?_ ?_
   rotate_left
   ·simp only [Act.put, pA, pB, pC]
    rfl
   refine pu 3 19 (bq 25 15) ?_ ?_ (fun _ => ?_) ?_ ?_
   rotate_left 2
   ·go_simp
    with_reducible rfl
   ·simp only [Act.put, pA, pB, pC]
    rfl
   refine pu 4 20 (bq 25 31) ?_ ?_ (fun _ => ?_) ?_ ?_
   rotate_left 2
   ·go_simp
    with_reducible rfl
   ·simp only [Act.put, pA, pB, pC]
    rfl
   refine po 5 21 (bq 25 63) ?_ ?_ ?_
   rotate_left
   ·simp only [Act.put, pA, pB, pC]
    rfl
   refine po 6 22 (bq 25 127) ?_ ?_ ?_
   rotate_left
   ·simp only [Act.put, pA, pB, pC]
    rfl
   refine po 7 23 (bq 25 255) ?_ ?_ ?_
   rotate_left
   ·simp only [Act.put, pA, pB, pC]
    rfl
   refine po 8 24 (bq 25 511) ?_ ?_ ?_
   rotate_left
   ·simp only [Act.put, pA, pB, pC]
    rfl
   refine po 9 25 (bq 25 1023) ?_ ?_ ?_
   rotate_left
   ·simp only [Act.put, pA, pB, pC]
    rfl
   refine po 10 26 (bq 25 2047) ?_ ?_ ?_
   rotate_left
   ·simp only [Act.put, pA, pB, pC]
    rfl
   refine pu 11 27 (bq 25 4095) ?_ ?_ (fun _ => ?_) ?_ ?_
   rotate_left 2
   ·go_simp
    with_reducible rfl
   ·simp only [Act.put, pA, pB, pC]
    rfl
   refine pu 12 28 (bq 25 8191) ?_ ?_ (fun _ => ?_) ?_ ?_
   rotate_left 2
   ·go_simp
    with_reducible rfl
   ·simp only [Act.put, pA, pB, pC]
    rfl
   refine po 13 29 (bq 25 16383) ?_ ?_ ?_
   rotate_left
   ·simp only [Act.put, pA, pB, pC]
    rfl
   refine po 14 30 (bq 25 32767) ?_ ?_ ?_
   rotate_left
   ·simp only [Act.put, pA, pB, pC]
    rfl
   refine po 15 31 (bq 25 65535) ?_ ?_ ?_
   rotate_left
   ·simp only [Act.put, pA, pB, pC]
    rfl
   refine po 16 32 (bq 25 131071) ?_ ?_ ?_
   rotate_left
   ·simp only [Act.put, pA, pB, pC]
    rfl
   refine pu 17 33 (bq 25 262143) ?_ ?_ (fun _ => ?_) ?_ ?_
   rotate_left 2
   ·go_simp
    with_reducible rfl
   ·simp only [Act.put, pA, pB, pC]
    rfl
   refine pu 18 34 (bq 25 524287) ?_ ?_ (fun _ => ?_) ?_ ?_
   rotate_left 2
   ·go_simp
    with_reducible rfl
   ·simp only [Act.put, pA, pB, pC]
    rfl
   refine po 19 35 (bq 25 1048575) ?_ ?_ ?_
   rotate_left
   ·simp only [Act.put, pA, pB, pC]
    rfl
   refine po 20 36 (bq 25 2097151) ?_ ?_ ?_
   rotate_left
   ·simp only [Act.put, pA, pB, pC]
    rfl
   refine po 21 37 (bq 25 4194303) ?_ ?_ ?_
   rotate_left
   ·simp only [Act.put, pA, pB, pC]
    rfl
   refine po 22 38 (bq 25 8388607) ?_ ?_ ?_
   rotate_left
   ·simp only [Act.put, pA, pB, pC]
    rfl
   refine pu 23 39 (bq 25 16777215) ?_ ?_ (fun _ => ?_) ?_ ?_
   rotate_left 2
   ·go_simp
    with_reducible rfl
   ·simp only [Act.put, pA, pB, pC]
    rfl
   refine pu 24 2 (bq 25 33554431) ?_ ?_ (fun _ => ?_) ?_ ?_
   rotate_left 2
   ·go_simp
    with_reducible rfl
   ·simp only [Act.put, pA, pB, pC]
    rfl
   refine done_ (by kernel_rfl) ?_
   go_wp2
   go_ret
   exact ⟨by first | rfl | simp, HBX⟩
  ·cases q
   ·skip
    refine start_ (n := 25) (S := fun w' => w'.cell? ⟨w.heap.size, 0, none⟩ = some (.b false) ∧ w'.cell? ⟨w.heap.size, 1, none⟩ = some (.i a1) ∧ w'.cell? ⟨w.heap.size, 2, none⟩ = some (.b a2) ∧ w'.cell? ⟨w.heap.size, 3, none⟩ = some (.u a3) ∧ w'.cell? ⟨w.heap.size, 4, none⟩ = some (.i a4) ∧ w'.cell? ⟨w.heap.size, 5, none⟩ = some (.i a5) ∧ w'.cell? ⟨w.heap.size, 6, none⟩ = some (.b a6) ∧ w'.cell? ⟨w.heap.size, 7, none⟩ = some (.u a7) ∧ w'.cell? ⟨w.heap.size, 8, none⟩ = some (.i a8)) (ds := []) (bq 25 0) (by kernel_rfl) rfl rfl ⟨BX.cell 0, BX.cell 1, BX.cell 2, BX.cell 3, BX.cell 4, BX.cell 5, BX.cell 6, BX.cell 7, BX.cell 8⟩ (fun hHeld => ?_)
    generalize hW2 : World.drew _ = W2 at BX HBX hHeld ⊢
    clear hW2
    refine pu 0 16 (bq 25 1) ?_ ?_ (fun _ => ?_) ?_ ?_
    rotate_left 2
    ·go_simp
     with_reducible rfl
    ·simp only [Act.put, pA, pB, pC]
     rfl
    refine pu 1 17 (bq 25 3) ?_ ?_ (fun _ => ?_) ?_ ?_
    rotate_left 2
    ·go_simp
     with_reducible rfl
    ·simp only [Act.put, pA, pB, pC]
     rfl
    refine pu 2 18 (bq 25 7) ?_ ?_ (fun _ => ?_) ?_ ?_
    rotate_left 2
    ·go_simp
     with_reducible rfl
    ·simp only [Act.put, pA, pB, pC]
     rfl
    refine pu 3 19 (bq 25 15) ?_ ?_ (fun _ => ?_) ?_ ?_
    rotate_left 2
    ·go_simp
     with_reducible rfl
    ·simp only [Act.put, pA, pB, pC]
     rfl
    refine pu 4 20 (bq 25 31) ?_ ?_ (fun _ => ?_) ?_ ?_
    rotate_left 2
    ·go_simp
     with_reducible rfl
    ·simp only [Act.put, pA, pB, pC]
     rfl
    refine po 5 21 (bq 25 63) ?_ ?_ ?_
    rotate_left
    ·simp only [Act.put, pA, pB, pC]
     rfl
    refine po 6 22 (bq 25 127) ?_ ?_ ?_
    rotate_left
    ·simp only [Act.put, pA, pB, pC]
     rfl
    refine po 7 23 (bq 25 255) ?_ ?_ ?_
    rotate_left
    ·simp only [Act.put, pA, pB, pC]
     rfl
    refine po 8 24 (bq 25 511) ?_ ?_ ?_
    rotate_left
    ·simp only [Act.put, pA, pB, pC]
     rfl
    refine po 9 25 (bq 25 1023) ?_ ?_ ?_
    rotate_left
    ·simp only [Act.put, pA, pB, pC]
     rfl
    refine po 10 26 (bq 25 2047) ?_ ?_ ?_
    rotate_left
    ·simp only [Act.put, pA, pB, pC]
     rfl
    refine pu 11 27 (bq 25 4095) ?_ ?_ (fun _ => ?_) ?_ ?_
    rotate_left 2
    ·go_simp
     with_reducible rfl
    ·simp only [Act.put, pA, pB, pC]
     rfl
    refine pu 12 28 (bq 25 8191) ?_ ?_ (fun _ => ?_) ?_ ?_
    rotate_left 2
    ·go_simp
     with_reducible rfl
    ·simp only [Act.put, pA, pB, pC]
     rfl
    refine po 13 29 (bq 25 16383) ?_ ?_ ?_
    rotate_left
    ·simp only [Act.put, pA, pB, pC]
     rfl
    refine po 14 30 (bq 25 32767) ?_ ?_ ?_
    rotate_left
    ·simp only [Act.put, pA, pB, pC]
     rfl
    refine po 15 31 (bq 25 65535) ?_ ?_ ?_
    rotate_left
    ·simp only [Act.put, pA, pB, pC]
     rfl
    refine po 16 32 (bq 25 131071) ?_ ?_ ?_
    rotate_left
    ·simp only [Act.put, pA, pB, pC]
     rfl
    refine pu 17 33 (bq 25 262143) ?_ ?_ (fun _ => ?_) ?_ ?_
    rotate_left 2
    ·go_simp
     with_reducible rfl
    ·simp only [Act.put, pA, pB, pC]
     rfl
    refine pu 18 34 (bq 25 524287) ?_ ?_ (fun _ => ?_) ?_ ?_
    rotate_left 2
    ·go_simp
     with_reducible rfl
    ·simp only [Act.put, pA, pB, pC]
     rfl
    refine po 19 35 (bq 25 1048575) ?_ ?_ ?_
    rotate_left
    ·simp only [Act.put, pA, pB, pC]
     rfl
    refine po 20 36 (bq 25 2097151) ?_ ?_ ?_
    rotate_left
    ·simp only [Act.put, pA, pB, pC]
     rfl
    refine po 21 37 (bq 25 4194303) ?_ ?_ ?_
    rotate_left
    ·simp only [Act.put, pA, pB, pC]
     rfl
    refine po 22 38 (bq 25 8388607) ?_ ?_ ?_
    rotate_left
    ·simp only [Act.put, pA, pB, pC]
     rfl
    refine pu 23 39 (bq 25 16777215) ?_ ?_ (fun _ => ?_) ?_ ?_
    rotate_left 2
    ·go_simp
     with_reducible rfl
    ·simp only [Act.put, pA, pB, pC]
     rfl
    refine pu 24 2 (bq 25 33554431) ?_ ?_ (fun _ => ?_) ?_ ?_
    rotate_left 2
    ·go_simp
     with_reducible rfl
    ·simp only [Act.put, pA, pB, pC]
     rfl
    refine done_ (by kernel_rfl) ?_
    go_wp2
    go_ret
    exact ⟨by first | rfl | simp, HBX⟩
   ·cases hcd : decide (c ≤ 0)
    ·skip
     refine start_ (n := 25) (S := fun w' => w'.cell? ⟨w.heap.size, 0, none⟩ = some (.b false) ∧ w'.cell? ⟨w.heap.size, 1, none⟩ = some (.i a1) ∧ w'.cell? ⟨w.heap.size, 2, none⟩ = some (.b a2) ∧ w'.cell? ⟨w.heap.size, 3, none⟩ = some (.u a3) ∧ w'.cell? ⟨w.heap.size, 4, none⟩ = some (.i a4) ∧ w'.cell? ⟨w.heap.size, 5, none⟩ = some (.i a5) ∧ w'.cell? ⟨w.heap.size, 6, none⟩ = some (.b a6) ∧ w'.cell? ⟨w.heap.size, 7, none⟩ = some (.u a7) ∧ w'.cell? ⟨w.heap.size, 8, none⟩ = some (.i a8)) (ds := []) (bq 25 0) (by kernel_rfl) rfl rfl ⟨BX.cell 0, BX.cell 1, BX.cell 2, BX.cell 3, BX.cell 4, BX.cell 5, BX.cell 6, BX.cell 7, BX.cell 8⟩ (fun hHeld => ?_)
     generalize hW2 : World.drew _ = W2 at BX HBX hHeld ⊢
     clear hW2
     refine pu 0 16 (bq 25 1) ?_ ?_ (fun _ => ?_) ?_ ?_
     rotate_left 2
     ·go_simp
      with_reducible rfl
     ·simp only [Act.put, pA, pB, pC]
      rfl
     refine pu 1 17 (bq 25 3) ?_ ?_ (fun _ => ?_) ?_ ?_
     rotate_left 2
     ·go_simp
      with_reducible rfl
     ·simp only [Act.put, pA, pB, pC]
      rfl
     refine pu 2 18 (bq 25 7) ?_ ?_ (fun _ => ?_) ?_ ?_
     rotate_left 2
     ·go_simp
      with_reducible rfl
     ·simp only [Act.put, pA, pB, pC]
      rfl
     refine pu 3 19 (bq 25 15) ?_ ?_ (fun _ => ?_) ?_ ?_
     rotate_left 2
     ·go_simp
      with_reducible rfl
     ·simp only [Act.put, pA, pB, pC]
      rfl
     refine pu 4 20 (bq 25 31) ?_ ?_ (fun _ => ?_) ?_ ?_
     rotate_left 2
     ·go_simp
      with_reducible rfl
     ·simp only [Act.put, pA, pB, pC]
      rfl
     refine pu 5 21 (bq 25 63) ?_ ?_ (fun _ => ?_) ?_ ?_
     rotate_left 2
     ·go_simp
      with_reducible rfl
     ·simp only [Act.put, pA, pB, pC]
      rfl
     refine tk 6 22 (bq 25 127) ?_ ?_ ?_ ?_ hHeld ?_
     rotate_left 2
     ·rintro w' ⟨s0_, s1_, s2_, s3_, s4_, s5_, s6_, s7_, s8_⟩
      go_simp
      with_reducible rfl
     ·simp only [Act.put, pA, pB, pC]
      rfl
     refine pu 7 23 (bq 25 255) ?_ ?_ (fun _ => ?_) ?_ ?_
     rotate_left 2
     ·go_simp
      with_reducible rfl
     ·simp only [Act.put, pA, pB, pC]
      rfl
     refine tk 8 24 (bq 25 511) ?_ ?_ ?_ ?_ hHeld ?_
     rotate_left 2
     ·rintro w' ⟨s0_, s1_, s2_, s3_, s4_, s5_, s6_, s7_, s8_⟩
      go_simp
      with_reducible rfl
     ·simp only [Act.put, pA, pB, pC]
      rfl
     refine on 9 25 (bq 25 1023) (fun K hK => ?_)
     refine goes_ Tryz.func72 (by kernel_rfl) rfl #[.agg #[.i a1, .b a2, .u a3, .i a4], .agg #[.i a5, .b a6, .u a7, .i a8]] (by first | rfl | go_simp) rfl rfl (by simp only [List.map_toArray, List.map_cons, List.map_nil] <;> rfl) ?_
     with_reducible refine (HC.out _).mono ?_
     rintro e w3 ⟨rfl, hb⟩
     refine ⟨_, rfl, ?_⟩
     have BX := BX.call hb
     have HBX := bl_trans HBX hb
     refine hK.out _ _ ⟨BX.cell 0, BX.cell 1, BX.cell 2, BX.cell 3, BX.cell 4, BX.cell 5, BX.cell 6, BX.cell 7, BX.cell 8⟩ (fun hHeld => ?_)
     clear hK K hb
     refine norm_ (a' := ?_) ?_ ?_
     rotate_left
     ·show Act.put _ (some 25) _ = _
      simp only [Act.put, pA, pB, pC]
      rfl
     refine pu 10 26 (bq 25 2047) ?_ ?_ (fun _ => ?_) ?_ ?_
     rotate_left 2
     ·go_simp
      with_reducible rfl
     ·simp only [Act.put, pA, pB, pC]
      rfl
     refine pu 11 27 (bq 25 4095) ?_ ?_ (fun _ => ?_) ?_ ?_
     rotate_left 2
     ·go_simp
      with_reducible rfl
     ·simp only [Act.put, pA, pB, pC]
      rfl
     refine pu 12 28 (bq 25 8191) ?_ ?_ (fun _ => ?_) ?_ ?_
     rotate_left 2
     ·go_simp
      with_reducible rfl
     ·simp only [Act.put, pA, pB, pC]
      rfl
     refine po 13 29 (bq 25 16383) ?_ ?_ ?_
     rotate_left
     ·simp only [Act.put, pA, pB, pC]
      rfl
     refine po 14 30 (bq 25 32767) ?_ ?_ ?_
     rotate_left
     ·simp only [Act.put, pA, pB, pC]
      rfl
     refine po 15 31 (bq 25 65535) ?_ ?_ ?_
     rotate_left
     ·simp only [Act.put, pA, pB, pC]
      rfl
     refine po 16 32 (bq 25 131071) ?_ ?_ ?_
     rotate_left
     ·simp only [Act.put, pA, pB, pC]
      rfl
     refine pu 17 33 (bq 25 262143) ?_ ?_ (fun _ => ?_) ?_ ?_
     rotate_left 2
     ·go_simp
      with_reducible rfl
     ·simp only [Act.put, pA, pB, pC]
      rfl
     refine pu 18 34 (bq 25 524287) ?_ ?_ (fun _ => ?_) ?_ ?_
     rotate_left 2
     ·go_simp
      with_reducible rfl
     ·simp only [Act.put, pA, pB, pC]
      rfl
     refine po 19 35 (bq 25 1048575) ?_ ?_ ?_
     rotate_left
     ·simp only [Act.put, pA, pB, pC]
      rfl
     refine po 20 36 (bq 25 2097151) ?_ ?_ ?_
     rotate_left
     ·simp only [Act.put, pA, pB, pC]
      rfl
     refine po 21 37 (bq 25 4194303) ?_ ?_ ?_
     rotate_left
     ·simp only [Act.put, pA, pB, pC]
      rfl
     refine po 22 38 (bq 25 8388607) ?_ ?_ ?_
     rotate_left
     ·simp only [Act.put, pA, pB, pC]
      rfl
     refine pu 23 39 (bq 25 16777215) ?_ ?_ (fun _ => ?_) ?_ ?_
     rotate_left 2
     ·go_simp
      with_reducible rfl
     ·simp only [Act.put, pA, pB, pC]
      rfl
     refine pu 24 2 (bq 25 33554431) ?_ ?_ (fun _ => ?_) ?_ ?_
     rotate_left 2
     ·go_simp
      with_reducible rfl
     ·simp only [Act.put, pA, pB, pC]
      rfl
     refine done_ (by kernel_rfl) ?_
     go_wp2
     go_ret
     exact ⟨by first | rfl | simp, HBX⟩
    ·cases l
     ·skip
      refine start_ (n := 25) (S := fun w' => w'.cell? ⟨w.heap.size, 0, none⟩ = some (.b false) ∧ w'.cell? ⟨w.heap.size, 1, none⟩ = some (.i a1) ∧ w'.cell? ⟨w.heap.size, 2, none⟩ = some (.b a2) ∧ w'.cell? ⟨w.heap.size, 3, none⟩ = some (.u a3) ∧ w'.cell? ⟨w.heap.size, 4, none⟩ = some (.i a4) ∧ w'.cell? ⟨w.heap.size, 5, none⟩ = some (.i a5) ∧ w'.cell? ⟨w.heap.size, 6, none⟩ = some (.b a6) ∧ w'.cell? ⟨w.heap.size, 7, none⟩ = some (.u a7) ∧ w'.cell? ⟨w.heap.size, 8, none⟩ = some (.i a8)) (ds := []) (bq 25 0) (by kernel_rfl) rfl rfl ⟨BX.cell 0, BX.cell 1, BX.cell 2, BX.cell 3, BX.cell 4, BX.cell 5, BX.cell 6, BX.cell 7, BX.cell 8⟩ (fun hHeld => ?_)
      generalize hW2 : World.drew _ = W2 at BX HBX hHeld ⊢
      clear hW2
      refine pu 0 16 (bq 25 1) ?_ ?_ (fun _ => ?_) ?_ ?_
      rotate_left 2
      ·go_simp
       with_reducible rfl
      ·simp only [Act.put, pA, pB, pC]
       rfl
      refine pu 1 17 (bq 25 3) ?_ ?_ (fun _ => ?_) ?_ ?_
      rotate_left 2
      ·go_simp
       with_reducible rfl
      ·simp only [Act.put, pA, pB, pC]
       rfl
      refine pu 2 18 (bq 25 7) ?_ ?_ (fun _ => ?_) ?_ ?_
      rotate_left 2
      ·go_simp
       with_reducible rfl
      ·simp only [Act.put, pA, pB, pC]
       rfl
      refine pu 3 19 (bq 25 15) ?_ ?_ (fun _ => ?_) ?_ ?_
      rotate_left 2
      ·go_simp
       with_reducible rfl
      ·simp only [Act.put, pA, pB, pC]
       rfl
      refine pu 4 20 (bq 25 31) ?_ ?_ (fun _ => ?_) ?_ ?_
      rotate_left 2
      ·go_simp
       with_reducible rfl
      ·simp only [Act.put, pA, pB, pC]
       rfl
      refine pu 5 21 (bq 25 63) ?_ ?_ (fun _ => ?_) ?_ ?_
      rotate_left 2
      ·go_simp
       with_reducible rfl
      ·simp only [Act.put, pA, pB, pC]
       rfl
      refine tk 6 22 (bq 25 127) ?_ ?_ ?_ ?_ hHeld ?_
      rotate_left 2
      ·rintro w' ⟨s0_, s1_, s2_, s3_, s4_, s5_, s6_, s7_, s8_⟩
       go_simp
       with_reducible rfl
      ·simp only [Act.put, pA, pB, pC]
       rfl
      refine pu 7 23 (bq 25 255) ?_ ?_ (fun _ => ?_) ?_ ?_
      rotate_left 2
      ·go_simp
       with_reducible rfl
      ·simp only [Act.put, pA, pB, pC]
       rfl
      refine tk 8 24 (bq 25 511) ?_ ?_ ?_ ?_ hHeld ?_
      rotate_left 2
      ·rintro w' ⟨s0_, s1_, s2_, s3_, s4_, s5_, s6_, s7_, s8_⟩
       go_simp
       with_reducible rfl
      ·simp only [Act.put, pA, pB, pC]
       rfl
      refine on 9 25 (bq 25 1023) (fun K hK => ?_)
      refine goes_ Tryz.func72 (by kernel_rfl) rfl #[.agg #[.i a1, .b a2, .u a3, .i a4], .agg #[.i a5, .b a6, .u a7, .i a8]] (by first | rfl | go_simp) rfl rfl (by simp only [List.map_toArray, List.map_cons, List.map_nil] <;> rfl) ?_
      with_reducible refine (HC.out _).mono ?_
      rintro e w3 ⟨rfl, hb⟩
      refine ⟨_, rfl, ?_⟩
      have BX := BX.call hb
      have HBX := bl_trans HBX hb
      refine hK.out _ _ ⟨BX.cell 0, BX.cell 1, BX.cell 2, BX.cell 3, BX.cell 4, BX.cell 5, BX.cell 6, BX.cell 7, BX.cell 8⟩ (fun hHeld => ?_)
      clear hK K hb
      refine norm_ (a' := ?_) ?_ ?_
      rotate_left
      ·show Act.put _ (some 25) _ = _
       simp only [Act.put, pA, pB, pC]
       rfl
      refine pu 10 26 (bq 25 2047) ?_ ?_ (fun _ => ?_) ?_ ?_
      rotate_left 2
      ·go_simp
       with_reducible rfl
      ·simp only [Act.put, pA, pB, pC]
       rfl
      refine pu 11 27 (bq 25 4095) ?_ ?_ (fun _ => ?_) ?_ ?_
      rotate_left 2
      ·go_simp
       with_reducible rfl
      ·simp only [Act.put, pA, pB, pC]
       rfl
      refine pu 12 28 (bq 25 8191) ?_ ?_ (fun _ => ?_) ?_ ?_
      rotate_left 2
      ·go_simp
       with_reducible rfl
      ·simp only [Act.put, pA, pB, pC]
       rfl
      refine pu 13 29 (bq 25 16383) ?_ ?_ (fun _ => ?_) ?_ ?_
      rotate_left 2
      ·go_simp
       with_reducible rfl
      ·simp only [Act.put, pA, pB, pC]
       rfl
      refine tk 14 30 (bq 25 32767) ?_ ?_ ?_ ?_ hHeld ?_
      rotate_left 2
      ·rintro w' ⟨s0_, s1_, s2_, s3_, s4_, s5_, s6_, s7_, s8_⟩
       go_simp
       with_reducible rfl
      ·simp only [Act.put, pA, pB, pC]
       rfl
      refine on 15 31 (bq 25 65535) (fun K hK => ?_)
      refine goes_ Tryz.func71 (by kernel_rfl) rfl #[.b false] (by first | rfl | go_simp) rfl rfl (by simp only [List.map_toArray, List.map_cons, List.map_nil] <;> rfl) ?_
      with_reducible refine (rinfN_lit _ _).mono ?_
      rintro e w4 ⟨rfl, hb⟩
      refine ⟨_, rfl, ?_⟩
      have BX := BX.call hb
      have HBX := bl_trans HBX hb
      refine hK.out _ _ ⟨BX.cell 0, BX.cell 1, BX.cell 2, BX.cell 3, BX.cell 4, BX.cell 5, BX.cell 6, BX.cell 7, BX.cell 8⟩ (fun hHeld => ?_)
      clear hK K hb
      refine norm_ (a' := ?_) ?_ ?_
      rotate_left
      ·show Act.put _ (some 31) _ = _
       simp only [Act.put, pA, pB, pC]
       rfl
      refine pu 16 32 (bq 25 131071) ?_ ?_ (fun _ => ?_) ?_ ?_
      rotate_left 2
      ·go_simp
       with_reducible rfl
      ·simp only [Act.put, pA, pB, pC]
       rfl
      refine pu 17 33 (bq 25 262143) ?_ ?_ (fun _ => ?_) ?_ ?_
      rotate_left 2
      ·go_simp
       with_reducible rfl
      ·simp only [Act.put, pA, pB, pC]
       rfl
      refine pu 18 34 (bq 25 524287) ?_ ?_ (fun _ => ?_) ?_ ?_
      rotate_left 2
      ·go_simp
       with_reducible rfl
      ·simp only [Act.put, pA, pB, pC]
       rfl
      refine po 19 35 (bq 25 1048575) ?_ ?_ ?_
      rotate_left
      ·simp only [Act.put, pA, pB, pC]
       rfl
      refine po 20 36 (bq 25 2097151) ?_ ?_ ?_
      rotate_left
      ·simp only [Act.put, pA, pB, pC]
       rfl
      refine po 21 37 (bq 25 4194303) ?_ ?_ ?_
      rotate_left
      ·simp only [Act.put, pA, pB, pC]
       rfl
      refine po 22 38 (bq 25 8388607) ?_ ?_ ?_
      rotate_left
      ·simp only [Act.put, pA, pB, pC]
       rfl
      refine pu 23 39 (bq 25 16777215) ?_ ?_ (fun _ => ?_) ?_ ?_
      rotate_left 2
      ·go_simp
       with_reducible rfl
      ·simp only [Act.put, pA, pB, pC]
       rfl
      refine pu 24 2 (bq 25 33554431) ?_ ?_ (fun _ => ?_) ?_ ?_
      rotate_left 2
      ·go_simp
       with_reducible rfl
      ·simp only [Act.put, pA, pB, pC]
       rfl
      refine done_ (by kernel_rfl) ?_
      go_wp2
      go_ret
      exact ⟨by first | rfl | simp, HBX⟩
     ·skip
      refine start_ (n := 25) (S := fun w' => w'.cell? ⟨w.heap.size, 0, none⟩ = some (.b false) ∧ w'.cell? ⟨w.heap.size, 1, none⟩ = some (.i a1) ∧ w'.cell? ⟨w.heap.size, 2, none⟩ = some (.b a2) ∧ w'.cell? ⟨w.heap.size, 3, none⟩ = some (.u a3) ∧ w'.cell? ⟨w.heap.size, 4, none⟩ = some (.i a4) ∧ w'.cell? ⟨w.heap.size, 5, none⟩ = some (.i a5) ∧ w'.cell? ⟨w.heap.size, 6, none⟩ = some (.b a6) ∧ w'.cell? ⟨w.heap.size, 7, none⟩ = some (.u a7) ∧ w'.cell? ⟨w.heap.size, 8, none⟩ = some (.i a8)) (ds := []) (bq 25 0) (by kernel_rfl) rfl rfl ⟨BX.cell 0, BX.cell 1, BX.cell 2, BX.cell 3, BX.cell 4, BX.cell 5, BX.cell 6, BX.cell 7, BX.cell 8⟩ (fun hHeld => ?_)
      generalize hW2 : World.drew _ = W2 at BX HBX hHeld ⊢
      clear hW2
      refine pu 0 16 (bq 25 1) ?_ ?_ (fun _ => ?_) ?_ ?_
      rotate_left 2
      ·go_simp
       with_reducible rfl
      ·simp only [Act.put, pA, pB, pC]
       rfl
      refine pu 1 17 (bq 25 3) ?_ ?_ (fun _ => ?_) ?_ ?_
      rotate_left 2
      ·go_simp
       with_reducible rfl
      ·simp only [Act.put, pA, pB, pC]
       rfl
      refine pu 2 18 (bq 25 7) ?_ ?_ (fun _ => ?_) ?_ ?_
      rotate_left 2
      ·go_simp
       with_reducible rfl
      ·simp only [Act.put, pA, pB, pC]
       rfl
      refine pu 3 19 (bq 25 15) ?_ ?_ (fun _ => ?_) ?_ ?_
      rotate_left 2
      ·go_simp
       with_reducible rfl
      ·simp only [Act.put, pA, pB, pC]
       rfl
      refine pu 4 20 (bq 25 31) ?_ ?_ (fun _ => ?_) ?_ ?_
      rotate_left 2
      ·go_simp
       with_reducible rfl
      ·simp only [Act.put, pA, pB, pC]
       rfl
      refine pu 5 21 (bq 25 63) ?_ ?_ (fun _ => ?_) ?_ ?_
      rotate_left 2
      ·go_simp
       with_reducible rfl
      ·simp only [Act.put, pA, pB, pC]
       rfl
      refine tk 6 22 (bq 25 127) ?_ ?_ ?_ ?_ hHeld ?_
      rotate_left 2
      ·rintro w' ⟨s0_, s1_, s2_, s3_, s4_, s5_, s6_, s7_, s8_⟩
       go_simp
       with_reducible rfl
      ·simp only [Act.put, pA, pB, pC]
       rfl
      refine pu 7 23 (bq 25 255) ?_ ?_ (fun _ => ?_) ?_ ?_
      rotate_left 2
      ·go_simp
       with_reducible rfl
      ·simp only [Act.put, pA, pB, pC]
       rfl
      refine tk 8 24 (bq 25 511) ?_ ?_ ?_ ?_ hHeld ?_
      rotate_left 2
      ·rintro w' ⟨s0_, s1_, s2_, s3_, s4_, s5_, s6_, s7_, s8_⟩
       go_simp
       with_reducible rfl
      ·simp only [Act.put, pA, pB, pC]
       rfl
      refine on 9 25 (bq 25 1023) (fun K hK => ?_)
      refine goes_ Tryz.func72 (by kernel_rfl) rfl #[.agg #[.i a1, .b a2, .u a3, .i a4], .agg #[.i a5, .b a6, .u a7, .i a8]] (by first | rfl | go_simp) rfl rfl (by simp only [List.map_toArray, List.map_cons, List.map_nil] <;> rfl) ?_
      with_reducible refine (HC.out _).mono ?_
      rintro e w3 ⟨rfl, hb⟩
      refine ⟨_, rfl, ?_⟩
      have BX := BX.call hb
      have HBX := bl_trans HBX hb
      refine hK.out _ _ ⟨BX.cell 0, BX.cell 1, BX.cell 2, BX.cell 3, BX.cell 4, BX.cell 5, BX.cell 6, BX.cell 7, BX.cell 8⟩ (fun hHeld => ?_)
      clear hK K hb
      refine norm_ (a' := ?_) ?_ ?_
      rotate_left
      ·show Act.put _ (some 25) _ = _
       simp only [Act.put, pA, pB, pC]
       rfl
      refine pu 10 26 (bq 25 2047) ?_ ?_ (fun _ => ?_) ?_ ?_
      rotate_left 2
      ·go_simp
       with_reducible rfl
      ·simp only [Act.put, pA, pB, pC]
       rfl
      refine pu 11 27 (bq 25 4095) ?_ ?_ (fun _ => ?_) ?_ ?_
      rotate_left 2
      ·go_simp
       with_reducible rfl
      ·simp only [Act.put, pA, pB, pC]
       rfl
      refine pu 12 28 (bq 25 8191) ?_ ?_ (fun _ => ?_) ?_ ?_
      rotate_left 2
      ·go_simp
       with_reducible rfl
      ·simp only [Act.put, pA, pB, pC]
       rfl
      refine pu 13 29 (bq 25 16383) ?_ ?_ (fun _ => ?_) ?_ ?_
      rotate_left 2
      ·go_simp
       with_reducible rfl
      ·simp only [Act.put, pA, pB, pC]
       rfl
      refine tk 14 30 (bq 25 32767) ?_ ?_ ?_ ?_ hHeld ?_
      rotate_left 2
      ·rintro w' ⟨s0_, s1_, s2_, s3_, s4_, s5_, s6_, s7_, s8_⟩
       go_simp
       with_reducible rfl
      ·simp only [Act.put, pA, pB, pC]
       rfl
      refine on 15 31 (bq 25 65535) (fun K hK => ?_)
      refine goes_ Tryz.func71 (by kernel_rfl) rfl #[.b false] (by first | rfl | go_simp) rfl rfl (by simp only [List.map_toArray, List.map_cons, List.map_nil] <;> rfl) ?_
      with_reducible refine (rinfN_lit _ _).mono ?_
      rintro e w4 ⟨rfl, hb⟩
      refine ⟨_, rfl, ?_⟩
      have BX := BX.call hb
      have HBX := bl_trans HBX hb
      refine hK.out _ _ ⟨BX.cell 0, BX.cell 1, BX.cell 2, BX.cell 3, BX.cell 4, BX.cell 5, BX.cell 6, BX.cell 7, BX.cell 8⟩ (fun hHeld => ?_)
      clear hK K hb
      refine norm_ (a' := ?_) ?_ ?_
      rotate_left
      ·show Act.put _ (some 31) _ = _
       simp only [Act.put, pA, pB, pC]
       rfl
      refine pu 16 32 (bq 25 131071) ?_ ?_ (fun _ => ?_) ?_ ?_
      rotate_left 2
      ·go_simp
       with_reducible rfl
      ·simp only [Act.put, pA, pB, pC]
       rfl
      refine pu 17 33 (bq 25 262143) ?_ ?_ (fun _ => ?_) ?_ ?_
      rotate_left 2
      ·go_simp
       with_reducible rfl
      ·simp only [Act.put, pA, pB, pC]
       rfl
      refine pu 18 34 (bq 25 524287) ?_ ?_ (fun _ => ?_) ?_ ?_
      rotate_left 2
      ·go_simp
       with_reducible rfl
      ·simp only [Act.put, pA, pB, pC]
       rfl
      refine pu 19 35 (bq 25 1048575) ?_ ?_ (fun _ => ?_) ?_ ?_
      rotate_left 2
      ·go_simp
       with_reducible rfl
      ·simp only [Act.put, pA, pB, pC]
       rfl
      refine tk 20 36 (bq 25 2097151) ?_ ?_ ?_ ?_ hHeld ?_
      rotate_left 2
      ·rintro w' ⟨s0_, s1_, s2_, s3_, s4_, s5_, s6_, s7_, s8_⟩
       go_simp
       with_reducible rfl
      ·simp only [Act.put, pA, pB, pC]
       rfl
      refine on 21 37 (bq 25 4194303) (fun K hK => ?_)
      refine goes_ Tryz.func71 (by kernel_rfl) rfl #[.b true] (by first | rfl | go_simp) rfl rfl (by simp only [List.map_toArray, List.map_cons, List.map_nil] <;> rfl) ?_
      with_reducible refine (rinfN_lit _ _).mono ?_
      rintro e w5 ⟨rfl, hb⟩
      refine ⟨_, rfl, ?_⟩
      have BX := BX.call hb
      have HBX := bl_trans HBX hb
      refine hK.out _ _ ⟨BX.cell 0, BX.cell 1, BX.cell 2, BX.cell 3, BX.cell 4, BX.cell 5, BX.cell 6, BX.cell 7, BX.cell 8⟩ (fun hHeld => ?_)
      clear hK K hb
      refine norm_ (a' := ?_) ?_ ?_
      rotate_left
      ·show Act.put _ (some 37) _ = _
       simp only [Act.put, pA, pB, pC]
       rfl
      refine pu 22 38 (bq 25 8388607) ?_ ?_ (fun _ => ?_) ?_ ?_
      rotate_left 2
      ·go_simp
       with_reducible rfl
      ·simp only [Act.put, pA, pB, pC]
       rfl
      refine pu 23 39 (bq 25 16777215) ?_ ?_ (fun _ => ?_) ?_ ?_
      rotate_left 2
      ·go_simp
       with_reducible rfl
      ·simp only [Act.put, pA, pB, pC]
       rfl
      refine pu 24 2 (bq 25 33554431) ?_ ?_ (fun _ => ?_) ?_ ?_
      rotate_left 2
      ·go_simp
       with_reducible rfl
      ·simp only [Act.put, pA, pB, pC]
       rfl
      refine done_ (by kernel_rfl) ?_
      go_wp2
      go_ret
      exact ⟨by first | rfl | simp, HBX⟩
 ·clear hl hh HP HQ HC
  go_enter Tryz.func69, Tryz.ntmps69
  go_wp2_with fail
  have BX := Blk.new w 34 (#[.b true, .i a1, .b a2, .u a3, .i a4, .i a5, .b a6, .u a7, .i a8])
  have HBX := bl_alloc (Below.refl w.heap.size w) (.cells #[.b true, .i a1, .b a2, .u a3, .i a4, .i a5, .b a6, .u a7, .i a8] 34)
  replace BX := BX.drew
  replace HBX := bl_drew HBX
  refine start_ (n := 4) (S := fun w' => w'.cell? ⟨w.heap.size, 0, none⟩ = some (.b true) ∧ w'.cell? ⟨w.heap.size, 1, none⟩ = some (.i a1) ∧ w'.cell? ⟨w.heap.size, 2, none⟩ = some (.b a2) ∧ w'.cell? ⟨w.heap.size, 3, none⟩ = some (.u a3) ∧ w'.cell? ⟨w.heap.size, 4, none⟩ = some (.i a4) ∧ w'.cell? ⟨w.heap.size, 5, none⟩ = some (.i a5) ∧ w'.cell? ⟨w.heap.size, 6, none⟩ = some (.b a6) ∧ w'.cell? ⟨w.heap.size, 7, none⟩ = some (.u a7) ∧ w'.cell? ⟨w.heap.size, 8, none⟩ = some (.i a8)) (ds := []) (bq 4 0) (by kernel_rfl) rfl rfl ⟨BX.cell 0, BX.cell 1, BX.cell 2, BX.cell 3, BX.cell 4, BX.cell 5, BX.cell 6, BX.cell 7, BX.cell 8⟩ (fun hHeld => ?_)
  generalize hW2 : World.drew _ = W2 at BX HBX hHeld ⊢
  clear hW2
  refine tk 0 7 (bq 4 1) ?_ ?_ ?_ ?_ hHeld ?_
  rotate_left 2
  ·rintro w' ⟨s0_, s1_, s2_, s3_, s4_, s5_, s6_, s7_, s8_⟩
   go_simp
   with_reducible rfl
  ·simp only [Act.put, pA, pB, pC]
   rfl
  refine on 1 8 (bq 4 3) (fun K hK => ?_)
  refine goes_ Tryz.func49 (by kernel_rfl) rfl #[] (by first | rfl | go_simp) rfl rfl (by simp only [List.map_toArray, List.map_cons, List.map_nil] <;> rfl) ?_
  with_reducible refine (r8none_lit _).mono ?_
  rintro e w1 ⟨rfl, hb⟩
  refine ⟨_, rfl, ?_⟩
  have BX := BX.call hb
  have HBX := bl_trans HBX hb
  refine hK.out _ _ ⟨BX.cell 0, BX.cell 1, BX.cell 2, BX.cell 3, BX.cell 4, BX.cell 5, BX.cell 6, BX.cell 7, BX.cell 8⟩ (fun hHeld => ?_)
  clear hK K hb
  refine norm_ (a' := ?_) ?_ ?_
  rotate_left
  ·show Act.put _ (some 8) _ = _
   simp only [Act.put, pA, pB, pC]
   rfl
  refine pu 2 9 (bq 4 7) ?_ ?_ (fun _ => ?_) ?_ ?_
  rotate_left 2
  ·go_simp
   with_reducible rfl
  ·simp only [Act.put, pA, pB, pC]
   rfl
  refine pu 3 2 (bq 4 15) ?_ ?_ (fun _ => ?_) ?_ ?_
  rotate_left 2
  ·go_simp
   with_reducible rfl
  ·simp only [Act.put, pA, pB, pC]
   rfl
  refine done_ (by kernel_rfl) ?_
  go_wp2
  go_ret
  exact ⟨by first | rfl | simp, HBX⟩

set_option maxRecDepth 100000 in
set_option maxHeartbeats 2000000 in
theorem r8fair_calls (a0 : Bool) (a1 : Int) (a2 : Bool) (a3 a4 a5 : Int) (a6 : Bool) (a7 a8 : Int) (w : World) :
  Calls Tryz.prog 48 #[.agg #[.b a0, .i a1, .b a2, .u a3, .i a4, .i a5, .b a6, .u a7, .i a8]] w fun e w' => e = .returned (.agg #[.b (fairI ⟨a0, ⟨a1, a2, a3, a4⟩, ⟨a5, a6, a7, a8⟩⟩).emp, .i ((fairI ⟨a0, ⟨a1, a2, a3, a4⟩, ⟨a5, a6, a7, a8⟩⟩).lo).k, .b ((fairI ⟨a0, ⟨a1, a2, a3, a4⟩, ⟨a5, a6, a7, a8⟩⟩).lo).n, .u ((fairI ⟨a0, ⟨a1, a2, a3, a4⟩, ⟨a5, a6, a7, a8⟩⟩).lo).m, .i ((fairI ⟨a0, ⟨a1, a2, a3, a4⟩, ⟨a5, a6, a7, a8⟩⟩).lo).e, .i ((fairI ⟨a0, ⟨a1, a2, a3, a4⟩, ⟨a5, a6, a7, a8⟩⟩).hi).k, .b ((fairI ⟨a0, ⟨a1, a2, a3, a4⟩, ⟨a5, a6, a7, a8⟩⟩).hi).n, .u ((fairI ⟨a0, ⟨a1, a2, a3, a4⟩, ⟨a5, a6, a7, a8⟩⟩).hi).m, .i ((fairI ⟨a0, ⟨a1, a2, a3, a4⟩, ⟨a5, a6, a7, a8⟩⟩).hi).e]) ∧ Below w.heap.size w w' := by
 unfold fairI
 have HM := Lib.hid (fun W => r8may_calls a0 a1 a2 a3 a4 a5 a6 a7 a8 W)
 generalize mayI ⟨a0, ⟨a1, a2, a3, a4⟩, ⟨a5, a6, a7, a8⟩⟩ = p at HM ⊢
 cases p
 ·show Calls _ _ _ _ fun e w' => e = .returned (.agg #[.b true, .i 0, .b false, .u 0, .i 0, .i 0, .b false, .u 0, .i 0]) ∧ _
  go_enter Tryz.func48, Tryz.ntmps48
  go_wp2_with (first
   | (go_at_call 69; refine (HM.out _).mono ?_; rintro e w1 ⟨rfl, hb⟩; have BR1 := (Blk.new1 w _ _ _).call hb; have HB1 := bl_trans (bl_alloc (bl_alloc (Below.refl w.heap.size w) _) _) hb; clear hb)
   | (go_at_call 49; refine (r8none_lit _).mono ?_; rintro e w2 ⟨rfl, hb⟩; have BR2 := BR1.call hb; have HB2 := bl_trans HB1 hb; obtain ⟨W3, hW3, B3, _, hL, _⟩ := put9 BR2 (.b true) (.i 0) (.b false) (.u 0) (.i 0) (.i 0) (.b false) (.u 0) (.i 0); have HB3 := hL w HB2 (by simp); obtain ⟨⟨q0, q1, q2, q3, q4, q5, q6, q7, q8⟩, ⟨f0, f1, f2, f3, f4, f5, f6, f7, f8⟩⟩ := BR2.c9; clear hb BR1 BR2 HB1 HB2 hL))
  exact bodyPost_ret (results_cell_row rfl _ _ (w.heap.size + 1) 34 #[.b true, .i 0, .b false, .u 0, .i 0, .i 0, .b false, .u 0, .i 0] (0, 0) _ rfl B3 Tryz.underlying34 rfl (by kernel_rfl)) rfl ⟨rfl, HB3⟩
 ·show Calls _ _ _ _ fun e w' => e = .returned (.agg #[.b a0, .i a1, .b a2, .u a3, .i a4, .i a5, .b a6, .u a7, .i a8]) ∧ _
  go_enter Tryz.func48, Tryz.ntmps48
  go_wp2_with (go_at_call 69; refine (HM.out _).mono ?_; rintro e w1 ⟨rfl, hb⟩; have BX1 := ((Blk.new w _ _).alloc _).call hb; have BR1 := (Blk.new1 w _ _ _).call hb; have HB1 := bl_trans (bl_alloc (bl_alloc (Below.refl w.heap.size w) _) _) hb; obtain ⟨W3, hW3, B3, _, hL, _⟩ := put9 BR1 (.b a0) (.i a1) (.b a2) (.u a3) (.i a4) (.i a5) (.b a6) (.u a7) (.i a8); have HB3 := hL w HB1 (by simp); obtain ⟨⟨p0, p1, p2, p3, p4, p5, p6, p7, p8⟩, ⟨g0, g1, g2, g3, g4, g5, g6, g7, g8⟩⟩ := BX1.c9; obtain ⟨⟨q0, q1, q2, q3, q4, q5, q6, q7, q8⟩, ⟨f0, f1, f2, f3, f4, f5, f6, f7, f8⟩⟩ := BR1.c9; clear hb BX1 BR1 HB1 hL)
  exact bodyPost_ret (results_cell_row rfl _ _ (w.heap.size + 1) 34 #[.b a0, .i a1, .b a2, .u a3, .i a4, .i a5, .b a6, .u a7, .i a8] (0, 0) _ rfl B3 Tryz.underlying34 rfl (by kernel_rfl)) rfl ⟨rfl, HB3⟩

end Go.Proofs.YteabdeohhmbclaaGreat.Wk
namespace Go.Proofs.YteabdeohhmbclaaGreat.Wk
open Go.RowKit Go.Proofs.Pl Go.Proofs.YteabdeohhmbclaaGreatW.PrintLast
set_option linter.unusedSimpArgs false
set_option linter.unusedVariables false

set_option maxRecDepth 100000 in
set_option maxHeartbeats 4000000 in
theorem r8make_calls (a0 : Int) (a1 : Bool) (a2 a3 : Int) (b0 : Int) (b1 : Bool) (b2 b3 : Int) (w : World) :
  Calls Tryz.prog 50 #[.agg #[.i a0, .b a1, .u a2, .i a3], .agg #[.i b0, .b b1, .u b2, .i b3]] w fun e w' => e = .returned (.agg #[.b (makeI ⟨a0, a1, a2, a3⟩ ⟨b0, b1, b2, b3⟩).emp, .i ((makeI ⟨a0, a1, a2, a3⟩ ⟨b0, b1, b2, b3⟩).lo).k, .b ((makeI ⟨a0, a1, a2, a3⟩ ⟨b0, b1, b2, b3⟩).lo).n, .u ((makeI ⟨a0, a1, a2, a3⟩ ⟨b0, b1, b2, b3⟩).lo).m, .i ((makeI ⟨a0, a1, a2, a3⟩ ⟨b0, b1, b2, b3⟩).lo).e, .i ((makeI ⟨a0, a1, a2, a3⟩ ⟨b0, b1, b2, b3⟩).hi).k, .b ((makeI ⟨a0, a1, a2, a3⟩ ⟨b0, b1, b2, b3⟩).hi).n, .u ((makeI ⟨a0, a1, a2, a3⟩ ⟨b0, b1, b2, b3⟩).hi).m, .i ((makeI ⟨a0, a1, a2, a3⟩ ⟨b0, b1, b2, b3⟩).hi).e]) ∧ Below w.heap.size w w' := by
 rw [makeI_eq]
 have HX := Lib.hid (fun W => r6fairN_calls a0 a1 a2 a3 W)
 have HY := Lib.hid (fun W => r6fairN_calls b0 b1 b2 b3 W)
 generalize fairN ⟨a0, a1, a2, a3⟩ = x at HX ⊢
 generalize fairN ⟨b0, b1, b2, b3⟩ = y at HY ⊢
 obtain ⟨x0, x1, x2, x3⟩ := x
 obtain ⟨y0, y1, y2, y3⟩ := y
 have HR := Lib.hid (fun W => r8fair_calls false x0 x1 x2 x3 y0 y1 y2 y3 W)
 generalize fairI _ = r at HR ⊢
 obtain ⟨r0, ⟨r1, r2, r3, r4⟩, ⟨r5, r6, r7, r8⟩⟩ := r
 dsimp only at HX HY HR ⊢
 go_enter Tryz.func50, Tryz.ntmps50
 go_wp2_with fail
 have BX := (((Blk.new w 32 #[.i a0, .b a1, .u a2, .i a3]).alloc (.cells #[.i b0, .b b1, .u b2, .i b3] 32)).alloc (.cells #[.b false, .i 0, .b false, .u 0, .i 0, .i 0, .b false, .u 0, .i 0] 34)).drew
 have BY := ((Blk.new1 w (.cells #[.i a0, .b a1, .u a2, .i a3] 32) 32 #[.i b0, .b b1, .u b2, .i b3]).alloc (.cells #[.b false, .i 0, .b false, .u 0, .i 0, .i 0, .b false, .u 0, .i 0] 34)).drew
 have BR0 := (Blk.new2 w (.cells #[.i a0, .b a1, .u a2, .i a3] 32) (.cells #[.i b0, .b b1, .u b2, .i b3] 32) 34 #[.b false, .i 0, .b false, .u 0, .i 0, .i 0, .b false, .u 0, .i 0]).drew
 have BR : Blk _ (w.heap.size + 1 + 1) _ _ := BR0
 clear BR0
 have HB := bl_drew (bl_alloc (bl_alloc (bl_alloc (Below.refl w.heap.size w) (.cells #[.i a0, .b a1, .u a2, .i a3] 32)) (.cells #[.i b0, .b b1, .u b2, .i b3] 32)) (.cells #[.b false, .i 0, .b false, .u 0, .i 0, .i 0, .b false, .u 0, .i 0] 34))
 refine start_ (n := 7) (S := fun w' => w'.cell? ⟨w.heap.size, 0, none⟩ = some (.i a0) ∧ w'.cell? ⟨w.heap.size, 1, none⟩ = some (.b a1) ∧ w'.cell? ⟨w.heap.size, 2, none⟩ = some (.u a2) ∧ w'.cell? ⟨w.heap.size, 3, none⟩ = some (.i a3) ∧ w'.cell? ⟨(w.heap.size + 1), 0, none⟩ = some (.i b0) ∧ w'.cell? ⟨(w.heap.size + 1), 1, none⟩ = some (.b b1) ∧ w'.cell? ⟨(w.heap.size + 1), 2, none⟩ = some (.u b2) ∧ w'.cell? ⟨(w.heap.size + 1), 3, none⟩ = some (.i b3)) (ds := [6]) (bq 7 0) (by kernel_rfl) rfl rfl ⟨BX.cell 0, BX.cell 1, BX.cell 2, BX.cell 3, BY.cell 0, BY.cell 1, BY.cell 2, BY.cell 3⟩ (fun hHeld => ?_)
 generalize hWW : World.drew _ = W at BX BY BR HB hHeld ⊢
 clear hWW
 refine tk 0 5 (bq 7 1) ?_ ?_ ?_ ?_ hHeld ?_
 rotate_left 2
 ·rintro w' ⟨s0_, s1_, s2_, s3_, s4_, s5_, s6_, s7_⟩
  go_simp
  with_reducible rfl
 ·simp only [Act.put, pA, pB, pC]
  rfl
 refine tk 2 7 (bq 7 5) ?_ ?_ ?_ ?_ hHeld ?_
 rotate_left 2
 ·rintro w' ⟨s0_, s1_, s2_, s3_, s4_, s5_, s6_, s7_⟩
  go_simp
  with_reducible rfl
 ·simp only [Act.put, pA, pB, pC]
  rfl
 refine on 1 6 (bq 7 7) (fun K hK => ?_)
 refine goes_ Tryz.func70 (by kernel_rfl) rfl #[.agg #[.i a0, .b a1, .u a2, .i a3]] (by first | rfl | go_simp) rfl rfl (by simp only [List.map_toArray, List.map_cons, List.map_nil] <;> rfl) ?_
 with_reducible refine (HX.out _).mono ?_
 rintro e w1 ⟨rfl, hb⟩
 refine ⟨_, rfl, ?_⟩
 have BX := BX.call hb
 have BY := BY.call hb
 have BR := BR.call hb
 have HB := bl_trans HB hb
 refine hK.out _ _ ⟨BX.cell 0, BX.cell 1, BX.cell 2, BX.cell 3, BY.cell 0, BY.cell 1, BY.cell 2, BY.cell 3⟩ (fun hHeld => ?_)
 clear hK K hb
 refine norm_ (a' := ?_) ?_ ?_
 rotate_left
 ·show Act.put _ (some 6) _ = _
  simp only [Act.put, pA, pB, pC]
  rfl
 refine on 3 8 (bq 7 15) (fun K hK => ?_)
 refine goes_ Tryz.func70 (by kernel_rfl) rfl #[.agg #[.i b0, .b b1, .u b2, .i b3]] (by first | rfl | go_simp) rfl rfl (by simp only [List.map_toArray, List.map_cons, List.map_nil] <;> rfl) ?_
 with_reducible refine (HY.out _).mono ?_
 rintro e w2 ⟨rfl, hb⟩
 refine ⟨_, rfl, ?_⟩
 have BX := BX.call hb
 have BY := BY.call hb
 have BR := BR.call hb
 have HB := bl_trans HB hb
 refine hK.out _ _ ⟨BX.cell 0, BX.cell 1, BX.cell 2, BX.cell 3, BY.cell 0, BY.cell 1, BY.cell 2, BY.cell 3⟩ (fun hHeld => ?_)
 clear hK K hb
 refine norm_ (a' := ?_) ?_ ?_
 rotate_left
 ·show Act.put _ (some 8) _ = _
  simp only [Act.put, pA, pB, pC]
  rfl
 refine pu 4 9 (bq 7 31) ?_ ?_ (fun _ => ?_) ?_ ?_
 rotate_left 2
 ·go_simp
  with_reducible rfl
 ·simp only [Act.put, pA, pB, pC]
  rfl
 refine on 5 10 (bq 7 63) (fun K hK => ?_)
 refine goes_ Tryz.func48 (by kernel_rfl) rfl #[.agg #[.b false, .i x0, .b x1, .u x2, .i x3, .i y0, .b y1, .u y2, .i y3]] (by first | rfl | go_simp) rfl rfl (by simp only [List.map_toArray, List.map_cons, List.map_nil] <;> rfl) ?_
 with_reducible refine (HR.out _).mono ?_
 rintro e w5 ⟨rfl, hb⟩
 refine ⟨_, rfl, ?_⟩
 have BX := BX.call hb
 have BY := BY.call hb
 have BR := BR.call hb
 have HB := bl_trans HB hb
 refine hK.out _ _ ⟨BX.cell 0, BX.cell 1, BX.cell 2, BX.cell 3, BY.cell 0, BY.cell 1, BY.cell 2, BY.cell 3⟩ (fun hHeld => ?_)
 clear hK K hb
 refine norm_ (a' := ?_) ?_ ?_
 rotate_left
 ·show Act.put _ (some 10) _ = _
  simp only [Act.put, pA, pB, pC]
  rfl
 obtain ⟨⟨q0, q1, q2, q3, q4, q5, q6, q7, q8⟩, ⟨f0, f1, f2, f3, f4, f5, f6, f7, f8⟩⟩ := BR.c9
 obtain ⟨W6, hW6, B6, _, hL, _⟩ := put9 BR (.b r0) (.i r1) (.b r2) (.u r3) (.i r4) (.i r5) (.b r6) (.u r7) (.i r8)
 have HB6 := hL w HB (by omega)
 refine last_ (i := 6) (N := none) (bq 7 127) rfl rfl (by kernel_rfl) (by decide) (fun K hK => ?_)
 refine skip_ (w1 := ?_) (by rfl) rfl ?_ ?_
 rotate_left
 ·go_simp
  rfl
 refine hK.out _ _ ?_
 clear hK K
 refine done_ (by kernel_rfl) ?_
 clear hHeld BX BY HB
 go_wp2
 exact bodyPost_ret (results_cell_row rfl _ _ (w.heap.size + 1 + 1) 34 #[.b r0, .i r1, .b r2, .u r3, .i r4, .i r5, .b r6, .u r7, .i r8] (0, 0) _ rfl B6 Tryz.underlying34 rfl (by kernel_rfl)) rfl ⟨rfl, HB6⟩

end Go.Proofs.YteabdeohhmbclaaGreat.Wk
