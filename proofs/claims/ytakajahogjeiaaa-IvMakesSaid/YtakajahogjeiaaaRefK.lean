/- Walks: the reference's Has and Within of intervals: they are iv's. -/
import Derived.Test.YtakajahogjeiaaaRefI
import Derived.Test.YtakajahogjeiaaaIvPl3
namespace Go.Proofs.Ytakajahogjeiaaa.Wk
open Go.RowKit Go.Proofs.Pl Go.Proofs.YtakajahogjeiaaaW.PrintLast
set_option linter.unusedSimpArgs false
set_option linter.unusedVariables false

set_option maxRecDepth 100000 in
set_option maxHeartbeats 8000000 in
theorem r8within_calls (a0 : Bool) (a1 : Int) (a2 : Bool) (a3 a4 a5 : Int) (a6 : Bool) (a7 a8 : Int) (b0 : Bool) (b1 : Int) (b2 : Bool) (b3 b4 b5 : Int) (b6 : Bool) (b7 b8 : Int) (w : World) :
    Calls Try.prog 40 #[.agg #[.bool a0, .int .i64 a1, .bool a2, .int .u64 a3, .int .i64 a4, .int .i64 a5, .bool a6, .int .u64 a7, .int .i64 a8], .agg #[.bool b0, .int .i64 b1, .bool b2, .int .u64 b3, .int .i64 b4, .int .i64 b5, .bool b6, .int .u64 b7, .int .i64 b8]] w fun e w' => e = .returned (.bool (withinI ⟨a0, ⟨a1, a2, a3, a4⟩, ⟨a5, a6, a7, a8⟩⟩ ⟨b0, ⟨b1, b2, b3, b4⟩, ⟨b5, b6, b7, b8⟩⟩)) ∧ Below w.heap.size w w' := by
  unfold withinI withinF
  have HF := Lib.hid (fun W => r8fair_calls a0 a1 a2 a3 a4 a5 a6 a7 a8 W)
  have HG := Lib.hid (fun W => r8fair_calls b0 b1 b2 b3 b4 b5 b6 b7 b8 W)
  generalize fairI ⟨a0, ⟨a1, a2, a3, a4⟩, ⟨a5, a6, a7, a8⟩⟩ = c at HF ⊢
  generalize fairI ⟨b0, ⟨b1, b2, b3, b4⟩, ⟨b5, b6, b7, b8⟩⟩ = d at HG ⊢
  obtain ⟨c0, ⟨c1, c2, c3, c4⟩, ⟨c5, c6, c7, c8⟩⟩ := c
  obtain ⟨d0, ⟨d1, d2, d3, d4⟩, ⟨d5, d6, d7, d8⟩⟩ := d
  dsimp only at HF HG ⊢
  have HC := Lib.hid (fun W => rcmpN_calls d1 d2 d3 d4 c1 c2 c3 c4 W)
  have HD := Lib.hid (fun W => rcmpN_calls c5 c6 c7 c8 d5 d6 d7 d8 W)
  generalize cmpN ⟨d1, d2, d3, d4⟩ ⟨c1, c2, c3, c4⟩ = l at HC ⊢
  generalize cmpN ⟨c5, c6, c7, c8⟩ ⟨d5, d6, d7, d8⟩ = h at HD ⊢
  have BB := (Blk.new1 w (.cells #[.bool a0, .int .i64 a1, .bool a2, .int .u64 a3, .int .i64 a4, .int .i64 a5, .bool a6, .int .u64 a7, .int .i64 a8] 44) 44 #[.bool b0, .int .i64 b1, .bool b2, .int .u64 b3, .int .i64 b4, .int .i64 b5, .bool b6, .int .u64 b7, .int .i64 b8])
  have HB := bl_alloc (bl_alloc (Below.refl w.heap.size w) (.cells #[.bool a0, .int .i64 a1, .bool a2, .int .u64 a3, .int .i64 a4, .int .i64 a5, .bool a6, .int .u64 a7, .int .i64 a8] 44)) (.cells #[.bool b0, .int .i64 b1, .bool b2, .int .u64 b3, .int .i64 b4, .int .i64 b5, .bool b6, .int .u64 b7, .int .i64 b8] 44)
  go_enter Try.func40, Try.ntmps40
  go_wp2_with fail
  refine (HF.out _).mono ?_
  rintro e w1 ⟨rfl, hb⟩
  have BB := (BB.call hb).alloc (.cells #[.bool c0, .int .i64 c1, .bool c2, .int .u64 c3, .int .i64 c4, .int .i64 c5, .bool c6, .int .u64 c7, .int .i64 c8] 44)
  have HB := bl_alloc (bl_trans HB hb) (.cells #[.bool c0, .int .i64 c1, .bool c2, .int .u64 c3, .int .i64 c4, .int .i64 c5, .bool c6, .int .u64 c7, .int .i64 c8] 44)
  have BC := Blk.new w1 44 #[.bool c0, .int .i64 c1, .bool c2, .int .u64 c3, .int .i64 c4, .int .i64 c5, .bool c6, .int .u64 c7, .int .i64 c8]
  clear hb
  obtain ⟨⟨p0, p1, p2, p3, p4, p5, p6, p7, p8⟩, _⟩ := BB.c9
  go_wp2_with fail
  refine (HG.out _).mono ?_
  rintro e w2 ⟨rfl, hb⟩
  clear p0 p1 p2 p3 p4 p5 p6 p7 p8
  have HB4 := bl_alloc (bl_trans HB hb) (.cells #[.bool d0, .int .i64 d1, .bool d2, .int .u64 d3, .int .i64 d4, .int .i64 d5, .bool d6, .int .u64 d7, .int .i64 d8] 44)
  have BX4 := (BC.call hb).alloc (.cells #[.bool d0, .int .i64 d1, .bool d2, .int .u64 d3, .int .i64 d4, .int .i64 d5, .bool d6, .int .u64 d7, .int .i64 d8] 44)
  have BY4 := Blk.new w2 44 #[.bool d0, .int .i64 d1, .bool d2, .int .u64 d3, .int .i64 d4, .int .i64 d5, .bool d6, .int .u64 d7, .int .i64 d8]
  clear hb BB BC HB HF HG
  cases c0
  · cases d0
    · cases hl : decide (l ≤ 0)
      · have Hl := Lib.hid hl
        obtain ⟨⟨p0, p1, p2, p3, p4, p5, p6, p7, p8⟩, _⟩ := BX4.c9
        obtain ⟨⟨r0, r1, r2, r3, r4, r5, r6, r7, r8⟩, _⟩ := BY4.c9
        go_wp2_with (go_at_call 79; first
          | ((with_reducible refine (HC.out _).mono ?_); rintro e w5 ⟨rfl, hb⟩; have BX5 := BX4.call hb; have BY5 := BY4.call hb; have HB5 := bl_trans HB4 hb; obtain ⟨⟨u0, u1, u2, u3, u4, u5, u6, u7, u8⟩, _⟩ := BX5.c9; obtain ⟨⟨v0, v1, v2, v3, v4, v5, v6, v7, v8⟩, _⟩ := BY5.c9; clear hb)
          | ((with_reducible refine (HD.out _).mono ?_); rintro e w6 ⟨rfl, hb⟩; have HB6 := bl_trans HB5 hb; clear hb))
        all_goals go_ret
        all_goals exact ⟨by first | rfl | (simp; done) | (rw [Hl.out]; rfl) | (rw [Hl.out, Hh.out]; rfl), by first | exact HB6 | exact HB5 | exact HB4⟩
      · have Hl := Lib.hid hl
        cases hh : decide (h ≤ 0)
        · have Hh := Lib.hid hh
          obtain ⟨⟨p0, p1, p2, p3, p4, p5, p6, p7, p8⟩, _⟩ := BX4.c9
          obtain ⟨⟨r0, r1, r2, r3, r4, r5, r6, r7, r8⟩, _⟩ := BY4.c9
          go_wp2_with (go_at_call 79; first
            | ((with_reducible refine (HC.out _).mono ?_); rintro e w5 ⟨rfl, hb⟩; have BX5 := BX4.call hb; have BY5 := BY4.call hb; have HB5 := bl_trans HB4 hb; obtain ⟨⟨u0, u1, u2, u3, u4, u5, u6, u7, u8⟩, _⟩ := BX5.c9; obtain ⟨⟨v0, v1, v2, v3, v4, v5, v6, v7, v8⟩, _⟩ := BY5.c9; clear hb)
            | ((with_reducible refine (HD.out _).mono ?_); rintro e w6 ⟨rfl, hb⟩; have HB6 := bl_trans HB5 hb; clear hb))
          all_goals go_ret
          all_goals exact ⟨by first | rfl | (simp; done) | (rw [Hl.out]; rfl) | (rw [Hl.out, Hh.out]; rfl), by first | exact HB6 | exact HB5 | exact HB4⟩
        · have Hh := Lib.hid hh
          obtain ⟨⟨p0, p1, p2, p3, p4, p5, p6, p7, p8⟩, _⟩ := BX4.c9
          obtain ⟨⟨r0, r1, r2, r3, r4, r5, r6, r7, r8⟩, _⟩ := BY4.c9
          go_wp2_with (go_at_call 79; first
            | ((with_reducible refine (HC.out _).mono ?_); rintro e w5 ⟨rfl, hb⟩; have BX5 := BX4.call hb; have BY5 := BY4.call hb; have HB5 := bl_trans HB4 hb; obtain ⟨⟨u0, u1, u2, u3, u4, u5, u6, u7, u8⟩, _⟩ := BX5.c9; obtain ⟨⟨v0, v1, v2, v3, v4, v5, v6, v7, v8⟩, _⟩ := BY5.c9; clear hb)
            | ((with_reducible refine (HD.out _).mono ?_); rintro e w6 ⟨rfl, hb⟩; have HB6 := bl_trans HB5 hb; clear hb))
          all_goals go_ret
          all_goals exact ⟨by first | rfl | (simp; done) | (rw [Hl.out]; rfl) | (rw [Hl.out, Hh.out]; rfl), by first | exact HB6 | exact HB5 | exact HB4⟩
    · skip
      obtain ⟨⟨p0, p1, p2, p3, p4, p5, p6, p7, p8⟩, _⟩ := BX4.c9
      obtain ⟨⟨r0, r1, r2, r3, r4, r5, r6, r7, r8⟩, _⟩ := BY4.c9
      go_wp2_with (go_at_call 79; first
        | ((with_reducible refine (HC.out _).mono ?_); rintro e w5 ⟨rfl, hb⟩; have BX5 := BX4.call hb; have BY5 := BY4.call hb; have HB5 := bl_trans HB4 hb; obtain ⟨⟨u0, u1, u2, u3, u4, u5, u6, u7, u8⟩, _⟩ := BX5.c9; obtain ⟨⟨v0, v1, v2, v3, v4, v5, v6, v7, v8⟩, _⟩ := BY5.c9; clear hb)
        | ((with_reducible refine (HD.out _).mono ?_); rintro e w6 ⟨rfl, hb⟩; have HB6 := bl_trans HB5 hb; clear hb))
      all_goals go_ret
      all_goals exact ⟨by first | rfl | (simp; done) | (rw [Hl.out]; rfl) | (rw [Hl.out, Hh.out]; rfl), by first | exact HB6 | exact HB5 | exact HB4⟩
  · skip
    obtain ⟨⟨p0, p1, p2, p3, p4, p5, p6, p7, p8⟩, _⟩ := BX4.c9
    obtain ⟨⟨r0, r1, r2, r3, r4, r5, r6, r7, r8⟩, _⟩ := BY4.c9
    go_wp2_with (go_at_call 79; first
      | ((with_reducible refine (HC.out _).mono ?_); rintro e w5 ⟨rfl, hb⟩; have BX5 := BX4.call hb; have BY5 := BY4.call hb; have HB5 := bl_trans HB4 hb; obtain ⟨⟨u0, u1, u2, u3, u4, u5, u6, u7, u8⟩, _⟩ := BX5.c9; obtain ⟨⟨v0, v1, v2, v3, v4, v5, v6, v7, v8⟩, _⟩ := BY5.c9; clear hb)
      | ((with_reducible refine (HD.out _).mono ?_); rintro e w6 ⟨rfl, hb⟩; have HB6 := bl_trans HB5 hb; clear hb))
    all_goals go_ret
    all_goals exact ⟨by first | rfl | (simp; done) | (rw [Hl.out]; rfl) | (rw [Hl.out, Hh.out]; rfl), by first | exact HB6 | exact HB5 | exact HB4⟩

def rhasF (x : Iv) (n : Num) : Bool := !x.emp && (n.k != 2) && decide (cmpN x.lo n ≤ 0) && decide (cmpN n x.hi ≤ 0)
theorem kind_fin {n : Num} (wn : Wf n) : (fairN n).k ≠ 2 ↔ Go.Proofs.Pl.Fin n := by
  have hm := mayN_fair n
  have hw := fairN_wf wn
  have ht : (0 : Int) < TOP := by decide +kernel
  unfold Go.Proofs.Pl.Fin K
  have hc := may_cases hm
  generalize fairN n = x at hm hw hc
  unfold key mag
  obtain ⟨x0, x1, x2, x3⟩ := x
  unfold Wf at hw
  dsimp only at hc hw ⊢
  have htop : TOP = 1267650600228229401496703205376 := rfl
  rcases hc with ⟨rfl, rfl, rfl, rfl⟩ | ⟨rfl, h1, h2, h3⟩ | ⟨rfl, rfl, rfl⟩
  · simp; omega
  · cases x1 <;> simp <;> omega
  · cases x1 <;> simp
theorem rhas_eq {x : Iv} {n : Num} (wx : WfIv x) (wn : Wf n) : rhasF (fairI x) (fairN n) = hasI x n := by
  rw [Bool.eq_iff_iff, has_iff wx wn, ← kind_fin wn]
  unfold rhasF
  have hw := fairN_wf wn
  rcases fairI_cases x with ⟨f, e⟩ | ⟨f, e⟩
  · have g := (full_iff wx).1 f
    rw [e]
    simp only [Bool.and_eq_true, Bool.not_eq_true', bne_iff_ne, decide_eq_true_eq, g.1]
    rw [cmp_le wx.1 hw, cmp_le hw wx.2, K_of g.2.1, K_of g.2.2.1]
    unfold K
    rw [fairN_fair]
    constructor
    · rintro ⟨⟨⟨_, h1⟩, h2⟩, h3⟩; exact ⟨f, h1, h2, h3⟩
    · rintro ⟨_, h1, h2, h3⟩; exact ⟨⟨⟨trivial, h1⟩, h2⟩, h3⟩
  · rw [e]
    simp [noneI, f]

set_option maxRecDepth 100000 in
set_option maxHeartbeats 8000000 in
theorem r8has_calls (a0 : Bool) (a1 : Int) (a2 : Bool) (a3 a4 a5 : Int) (a6 : Bool) (a7 a8 : Int) (b0 : Int) (b1 : Bool) (b2 b3 : Int) (w : World) (wa : WfIv ⟨a0, ⟨a1, a2, a3, a4⟩, ⟨a5, a6, a7, a8⟩⟩) (wb : Wf ⟨b0, b1, b2, b3⟩) :
    Calls Try.prog 39 #[.agg #[.bool a0, .int .i64 a1, .bool a2, .int .u64 a3, .int .i64 a4, .int .i64 a5, .bool a6, .int .u64 a7, .int .i64 a8], .agg #[.int .i64 b0, .bool b1, .int .u64 b2, .int .i64 b3]] w fun e w' => e = .returned (.bool (hasI ⟨a0, ⟨a1, a2, a3, a4⟩, ⟨a5, a6, a7, a8⟩⟩ ⟨b0, b1, b2, b3⟩)) ∧ Below w.heap.size w w' := by
  rw [← rhas_eq wa wb]
  unfold rhasF
  have HF := Lib.hid (fun W => r8fair_calls a0 a1 a2 a3 a4 a5 a6 a7 a8 W)
  have HG := Lib.hid (fun W => r6fairN_calls b0 b1 b2 b3 W)
  generalize fairI ⟨a0, ⟨a1, a2, a3, a4⟩, ⟨a5, a6, a7, a8⟩⟩ = c at HF ⊢
  generalize fairN ⟨b0, b1, b2, b3⟩ = d at HG ⊢
  obtain ⟨c0, ⟨c1, c2, c3, c4⟩, ⟨c5, c6, c7, c8⟩⟩ := c
  obtain ⟨d0, d1, d2, d3⟩ := d
  dsimp only at HF HG ⊢
  have HC := Lib.hid (fun W => rcmpN_calls c1 c2 c3 c4 d0 d1 d2 d3 W)
  have HD := Lib.hid (fun W => rcmpN_calls d0 d1 d2 d3 c5 c6 c7 c8 W)
  generalize cmpN ⟨c1, c2, c3, c4⟩ ⟨d0, d1, d2, d3⟩ = l at HC ⊢
  generalize cmpN ⟨d0, d1, d2, d3⟩ ⟨c5, c6, c7, c8⟩ = h at HD ⊢
  have BB := (Blk.new1 w (.cells #[.bool a0, .int .i64 a1, .bool a2, .int .u64 a3, .int .i64 a4, .int .i64 a5, .bool a6, .int .u64 a7, .int .i64 a8] 44) 42 #[.int .i64 b0, .bool b1, .int .u64 b2, .int .i64 b3])
  have HB := bl_alloc (bl_alloc (Below.refl w.heap.size w) (.cells #[.bool a0, .int .i64 a1, .bool a2, .int .u64 a3, .int .i64 a4, .int .i64 a5, .bool a6, .int .u64 a7, .int .i64 a8] 44)) (.cells #[.int .i64 b0, .bool b1, .int .u64 b2, .int .i64 b3] 42)
  go_enter Try.func39, Try.ntmps39
  go_wp2_with fail
  refine (HF.out _).mono ?_
  rintro e w1 ⟨rfl, hb⟩
  have BB := (BB.call hb).alloc (.cells #[.bool c0, .int .i64 c1, .bool c2, .int .u64 c3, .int .i64 c4, .int .i64 c5, .bool c6, .int .u64 c7, .int .i64 c8] 44)
  have HB := bl_alloc (bl_trans HB hb) (.cells #[.bool c0, .int .i64 c1, .bool c2, .int .u64 c3, .int .i64 c4, .int .i64 c5, .bool c6, .int .u64 c7, .int .i64 c8] 44)
  have BC := Blk.new w1 44 #[.bool c0, .int .i64 c1, .bool c2, .int .u64 c3, .int .i64 c4, .int .i64 c5, .bool c6, .int .u64 c7, .int .i64 c8]
  clear hb
  obtain ⟨⟨p0, p1, p2, p3⟩, _⟩ := BB.c4
  go_wp2_with fail
  refine (HG.out _).mono ?_
  rintro e w2 ⟨rfl, hb⟩
  clear p0 p1 p2 p3
  have HB4 := bl_alloc (bl_trans HB hb) (.cells #[.int .i64 d0, .bool d1, .int .u64 d2, .int .i64 d3] 42)
  have BX4 := (BC.call hb).alloc (.cells #[.int .i64 d0, .bool d1, .int .u64 d2, .int .i64 d3] 42)
  have BY4 := Blk.new w2 42 #[.int .i64 d0, .bool d1, .int .u64 d2, .int .i64 d3]
  clear hb BB BC HB HF HG
  cases c0
  · by_cases hk : d0 = 2
    · subst hk
      obtain ⟨⟨p0, p1, p2, p3, p4, p5, p6, p7, p8⟩, _⟩ := BX4.c9
      obtain ⟨⟨r0, r1, r2, r3⟩, _⟩ := BY4.c4
      go_wp2_with (go_at_call 79; first
        | ((with_reducible refine (HC.out _).mono ?_); rintro e w5 ⟨rfl, hb⟩; have BX5 := BX4.call hb; have BY5 := BY4.call hb; have HB5 := bl_trans HB4 hb; obtain ⟨⟨u0, u1, u2, u3, u4, u5, u6, u7, u8⟩, _⟩ := BX5.c9; obtain ⟨⟨v0, v1, v2, v3⟩, _⟩ := BY5.c4; clear hb)
        | ((with_reducible refine (HD.out _).mono ?_); rintro e w6 ⟨rfl, hb⟩; have HB6 := bl_trans HB5 hb; clear hb))
      all_goals go_ret
      all_goals exact ⟨by first | rfl | (simp; done) | (rw [hk1, Hl.out]; rfl) | (rw [hk1, Hl.out, Hh.out]; rfl) | (simp only [hk1, Hl.out]; rfl) | (simp only [hk1, Hl.out, Hh.out]; rfl), by first | exact HB6 | exact HB5 | exact HB4⟩
    · have hk1 : (d0 != 2) = true := bne_iff_ne.2 hk
      cases hl : decide (l ≤ 0)
      · have Hl := Lib.hid hl
        obtain ⟨⟨p0, p1, p2, p3, p4, p5, p6, p7, p8⟩, _⟩ := BX4.c9
        obtain ⟨⟨r0, r1, r2, r3⟩, _⟩ := BY4.c4
        go_wp2_with (go_at_call 79; first
          | ((with_reducible refine (HC.out _).mono ?_); rintro e w5 ⟨rfl, hb⟩; have BX5 := BX4.call hb; have BY5 := BY4.call hb; have HB5 := bl_trans HB4 hb; obtain ⟨⟨u0, u1, u2, u3, u4, u5, u6, u7, u8⟩, _⟩ := BX5.c9; obtain ⟨⟨v0, v1, v2, v3⟩, _⟩ := BY5.c4; clear hb)
          | ((with_reducible refine (HD.out _).mono ?_); rintro e w6 ⟨rfl, hb⟩; have HB6 := bl_trans HB5 hb; clear hb))
        all_goals go_ret
        all_goals exact ⟨by first | rfl | (simp; done) | (rw [hk1, Hl.out]; rfl) | (rw [hk1, Hl.out, Hh.out]; rfl) | (simp only [hk1, Hl.out]; rfl) | (simp only [hk1, Hl.out, Hh.out]; rfl), by first | exact HB6 | exact HB5 | exact HB4⟩
      · have Hl := Lib.hid hl
        cases hh : decide (h ≤ 0)
        · have Hh := Lib.hid hh
          obtain ⟨⟨p0, p1, p2, p3, p4, p5, p6, p7, p8⟩, _⟩ := BX4.c9
          obtain ⟨⟨r0, r1, r2, r3⟩, _⟩ := BY4.c4
          go_wp2_with (go_at_call 79; first
            | ((with_reducible refine (HC.out _).mono ?_); rintro e w5 ⟨rfl, hb⟩; have BX5 := BX4.call hb; have BY5 := BY4.call hb; have HB5 := bl_trans HB4 hb; obtain ⟨⟨u0, u1, u2, u3, u4, u5, u6, u7, u8⟩, _⟩ := BX5.c9; obtain ⟨⟨v0, v1, v2, v3⟩, _⟩ := BY5.c4; clear hb)
            | ((with_reducible refine (HD.out _).mono ?_); rintro e w6 ⟨rfl, hb⟩; have HB6 := bl_trans HB5 hb; clear hb))
          all_goals go_ret
          all_goals exact ⟨by first | rfl | (simp; done) | (rw [hk1, Hl.out]; rfl) | (rw [hk1, Hl.out, Hh.out]; rfl) | (simp only [hk1, Hl.out]; rfl) | (simp only [hk1, Hl.out, Hh.out]; rfl), by first | exact HB6 | exact HB5 | exact HB4⟩
        · have Hh := Lib.hid hh
          obtain ⟨⟨p0, p1, p2, p3, p4, p5, p6, p7, p8⟩, _⟩ := BX4.c9
          obtain ⟨⟨r0, r1, r2, r3⟩, _⟩ := BY4.c4
          go_wp2_with (go_at_call 79; first
            | ((with_reducible refine (HC.out _).mono ?_); rintro e w5 ⟨rfl, hb⟩; have BX5 := BX4.call hb; have BY5 := BY4.call hb; have HB5 := bl_trans HB4 hb; obtain ⟨⟨u0, u1, u2, u3, u4, u5, u6, u7, u8⟩, _⟩ := BX5.c9; obtain ⟨⟨v0, v1, v2, v3⟩, _⟩ := BY5.c4; clear hb)
            | ((with_reducible refine (HD.out _).mono ?_); rintro e w6 ⟨rfl, hb⟩; have HB6 := bl_trans HB5 hb; clear hb))
          all_goals go_ret
          all_goals exact ⟨by first | rfl | (simp; done) | (rw [hk1, Hl.out]; rfl) | (rw [hk1, Hl.out, Hh.out]; rfl) | (simp only [hk1, Hl.out]; rfl) | (simp only [hk1, Hl.out, Hh.out]; rfl), by first | exact HB6 | exact HB5 | exact HB4⟩
  · skip
    obtain ⟨⟨p0, p1, p2, p3, p4, p5, p6, p7, p8⟩, _⟩ := BX4.c9
    obtain ⟨⟨r0, r1, r2, r3⟩, _⟩ := BY4.c4
    go_wp2_with (go_at_call 79; first
      | ((with_reducible refine (HC.out _).mono ?_); rintro e w5 ⟨rfl, hb⟩; have BX5 := BX4.call hb; have BY5 := BY4.call hb; have HB5 := bl_trans HB4 hb; obtain ⟨⟨u0, u1, u2, u3, u4, u5, u6, u7, u8⟩, _⟩ := BX5.c9; obtain ⟨⟨v0, v1, v2, v3⟩, _⟩ := BY5.c4; clear hb)
      | ((with_reducible refine (HD.out _).mono ?_); rintro e w6 ⟨rfl, hb⟩; have HB6 := bl_trans HB5 hb; clear hb))
    all_goals go_ret
    all_goals exact ⟨by first | rfl | (simp; done) | (rw [hk1, Hl.out]; rfl) | (rw [hk1, Hl.out, Hh.out]; rfl) | (simp only [hk1, Hl.out]; rfl) | (simp only [hk1, Hl.out, Hh.out]; rfl), by first | exact HB6 | exact HB5 | exact HB4⟩
end Go.Proofs.Ytakajahogjeiaaa.Wk
