/- Walk: the reference's comparison of numbers is num's. -/
import Derived.Test.YtakajahogjeiaabRefN
import Derived.Test.YtakajahogjeiaabIvA
namespace Go.Proofs.Ytakajahogjeiaab.Wk
open Go.RowKit Go.Proofs.Pl Go.Proofs.YtakajahogjeiaabW.PrintLast
set_option linter.unusedSimpArgs false
set_option linter.unusedVariables false

theorem mayN_fair' (x : Num) : mayN (fairN x) = true := by
  unfold fairN
  split
  · assumption
  · decide +kernel
def rcmpF (c d : Num) : Int :=
  if signN c ≠ signN d then (if signN c < signN d then -1 else 1)
  else if signN c = 0 ∨ decide (c = d) = true then 0
  else if (c.k = 2 ∨ (d.k ≠ 2 ∧ (d.e < c.e ∨ (c.e = d.e ∧ d.m < c.m)))) then signN c else -(signN c)
theorem may_cases' {x : Num} (h : mayN x = true) : (x.k = 0 ∧ x.n = false ∧ x.m = 0 ∧ x.e = 0) ∨ (x.k = 1) ∨ (x.k = 2 ∧ x.m = 0 ∧ x.e = 0) := by
  unfold mayN at h
  split at h
  · next h0 => simp at h; exact .inl ⟨h0, h.1.1, h.1.2, h.2⟩
  · split at h
    · next h1 => exact .inr (.inl h1)
    · simp at h; exact .inr (.inr h)
theorem sign_may {x : Num} (h : mayN x = true) : signN x = if x.k = 0 then 0 else if x.n = true then -1 else 1 := by
  unfold signN fairN signF
  rw [if_pos h]
theorem rcmp_eq {c d : Num} (hc : mayN c = true) (hd : mayN d = true) : rcmpF c d = cmpF c d := by
  obtain ⟨c0, c1, c2, c3⟩ := c
  obtain ⟨d0, d1, d2, d3⟩ := d
  unfold rcmpF cmpF farN
  simp only [decide_eq_true_eq]
  rw [sign_may hc, sign_may hd]
  have h1 := may_cases' hc
  have h2 := may_cases' hd
  clear hc hd
  dsimp only at h1 h2 ⊢
  rcases h1 with ⟨rfl, rfl, rfl, rfl⟩ | rfl | ⟨rfl, rfl, rfl⟩ <;> rcases h2 with ⟨rfl, rfl, rfl, rfl⟩ | rfl | ⟨rfl, rfl, rfl⟩ <;> simp only [Num.mk.injEq] <;> (try cases c1) <;> (try cases d1) <;> simp
  all_goals (repeat' split)
  all_goals (first | rfl | omega | skip)

set_option maxRecDepth 100000 in
set_option maxHeartbeats 4000000 in
theorem rcmpN_calls (a0 : Int) (a1 : Bool) (a2 a3 : Int) (b0 : Int) (b1 : Bool) (b2 b3 : Int) (w : World) :
    Calls Try.prog 92 #[.agg #[.int .i64 a0, .bool a1, .int .u64 a2, .int .i64 a3], .agg #[.int .i64 b0, .bool b1, .int .u64 b2, .int .i64 b3]] w fun e w' => e = .returned (.int .i64 (cmpN ⟨a0, a1, a2, a3⟩ ⟨b0, b1, b2, b3⟩)) ∧ Below w.heap.size w w' := by
  unfold cmpN
  rw [← rcmp_eq (mayN_fair' _) (mayN_fair' _)]
  have HF := Lib.hid (fun W => rfairN_calls a0 a1 a2 a3 W)
  have HG := Lib.hid (fun W => rfairN_calls b0 b1 b2 b3 W)
  generalize fairN ⟨a0, a1, a2, a3⟩ = F at HF ⊢
  generalize fairN ⟨b0, b1, b2, b3⟩ = G at HG ⊢
  obtain ⟨c0, c1, c2, c3⟩ := F
  obtain ⟨d0, d1, d2, d3⟩ := G
  dsimp only at HF HG
  unfold rcmpF
  have HS := Lib.hid (fun W => rsignN_calls c0 c1 c2 c3 W)
  have HT := Lib.hid (fun W => rsignN_calls d0 d1 d2 d3 W)
  have sb := signN_bd ⟨c0, c1, c2, c3⟩
  generalize signN ⟨c0, c1, c2, c3⟩ = s at HS sb ⊢
  generalize signN ⟨d0, d1, d2, d3⟩ = t at HT ⊢
  have e1 := fun W => run_eqNum W c0 d0 c1 d1 c2 d2 c3 d3
  generalize (decide ((⟨c0, c1, c2, c3⟩ : Num) = ⟨d0, d1, d2, d3⟩)) = q at e1 ⊢
  obtain ⟨sb0, sb1⟩ := sb
  go_enter Try.func92, Try.ntmps92
  go_wp2_with fail
  have BA := ((Blk.new w 24 #[.int .i64 a0, .bool a1, .int .u64 a2, .int .i64 a3]).alloc (.cells #[.int .i64 b0, .bool b1, .int .u64 b2, .int .i64 b3] 24))
  have BB := (Blk.new1 w (.cells #[.int .i64 a0, .bool a1, .int .u64 a2, .int .i64 a3] 24) 24 #[.int .i64 b0, .bool b1, .int .u64 b2, .int .i64 b3])
  have HB := bl_alloc (bl_alloc (Below.refl w.heap.size w) (.cells #[.int .i64 a0, .bool a1, .int .u64 a2, .int .i64 a3] 24)) (.cells #[.int .i64 b0, .bool b1, .int .u64 b2, .int .i64 b3] 24)
  refine (HF.out _).mono ?_
  rintro e w1 ⟨rfl, hb⟩
  have BA := (BA.call hb).alloc (.cells #[.int .i64 c0, .bool c1, .int .u64 c2, .int .i64 c3] 24)
  have BB := (BB.call hb).alloc (.cells #[.int .i64 c0, .bool c1, .int .u64 c2, .int .i64 c3] 24)
  have HB := bl_alloc (bl_trans HB hb) (.cells #[.int .i64 c0, .bool c1, .int .u64 c2, .int .i64 c3] 24)
  have BC := Blk.new w1 24 #[.int .i64 c0, .bool c1, .int .u64 c2, .int .i64 c3]
  clear hb
  obtain ⟨⟨p0, p1, p2, p3⟩, _⟩ := BB.c4
  go_wp2_with fail
  refine (HG.out _).mono ?_
  rintro e w2 ⟨rfl, hb⟩
  clear p0 p1 p2 p3
  have HB := bl_alloc (bl_trans HB hb) (.cells #[.int .i64 d0, .bool d1, .int .u64 d2, .int .i64 d3] 24)
  have BC := (BC.call hb).alloc (.cells #[.int .i64 d0, .bool d1, .int .u64 d2, .int .i64 d3] 24)
  have BD := Blk.new w2 24 #[.int .i64 d0, .bool d1, .int .u64 d2, .int .i64 d3]
  clear hb BA BB
  obtain ⟨⟨p0, p1, p2, p3⟩, _⟩ := BC.c4
  obtain ⟨⟨r0, r1, r2, r3⟩, _⟩ := BD.c4
  go_wp2_with fail
  refine (HS.out _).mono ?_
  rintro e w3 ⟨rfl, hb⟩
  clear p0 p1 p2 p3 r0 r1 r2 r3
  have HB := bl_trans HB hb
  have BC := BC.call hb
  have BD := BD.call hb
  clear hb
  obtain ⟨⟨p0, p1, p2, p3⟩, _⟩ := BC.c4
  obtain ⟨⟨r0, r1, r2, r3⟩, _⟩ := BD.c4
  go_wp2_with fail
  refine (HT.out _).mono ?_
  rintro e w4 ⟨rfl, hb⟩
  clear p0 p1 p2 p3 r0 r1 r2 r3
  have HB := bl_trans HB hb
  have BC := BC.call hb
  have BD := BD.call hb
  clear hb
  obtain ⟨⟨p0, p1, p2, p3⟩, _⟩ := BC.c4
  obtain ⟨⟨r0, r1, r2, r3⟩, _⟩ := BD.c4
  by_cases hst : s = t
  · subst hst
    by_cases hs0 : s = 0
    · subst hs0
      go_wp2
      all_goals go_ret
      all_goals exact ⟨by simp, HB⟩
    · have hs0' : (s == 0) = false := beq_eq_false_iff_ne.2 hs0
      cases q
      · go_wp2
        all_goals go_ret
        all_goals refine ⟨?_, HB⟩
        all_goals (try simp only [ne_eq, not_true_eq_false, if_false, hs0, Bool.false_eq_true, or_self])
        all_goals first | (simp_all; done) | (simp_all; omega) | (split <;> first | rfl | (simp_all; done) | (simp_all; omega)) | trace_state
      · go_wp2
        all_goals go_ret
        all_goals exact ⟨by simp, HB⟩
  · have hst' : (s != t) = true := bne_iff_ne.2 hst
    by_cases hlt : s < t
    · go_wp2
      all_goals go_ret
      all_goals exact ⟨by simp [hst, hlt], HB⟩
    · go_wp2
      all_goals go_ret
      all_goals exact ⟨by simp [hst, hlt], HB⟩
end Go.Proofs.Ytakajahogjeiaab.Wk
