import Derived.Test.YtagojbgmgkkdpaaMRa
import Derived.Test.YtagojbgmgkkdpaaIvPl3
import Derived.Test.YtagojbgmgkkdpaaNumC
import Derived.Test.YtagojbgmgkkdpaaIvPl5
/- Walks: the reference's Has and Within of intervals: they are iv's. -/
namespace Go.Proofs.Ytagojbgmgkkdpaa.Wk
open Go.RowKit Go.Proofs.Pl Go.Proofs.YtagojbgmgkkdpaaW.PrintLast
set_option linter.unusedSimpArgs false
set_option linter.unusedVariables false

set_option maxRecDepth 100000 in
set_option maxHeartbeats 8000000 in
theorem r8within_calls (a0 : Bool) (a1 : Int) (a2 : Bool) (a3 a4 a5 : Int) (a6 : Bool) (a7 a8 : Int) (b0 : Bool) (b1 : Int) (b2 : Bool) (b3 b4 b5 : Int) (b6 : Bool) (b7 b8 : Int) (w : World) :
    Calls Try.prog 87 #[.agg #[.bool a0, .int .i64 a1, .bool a2, .int .u64 a3, .int .i64 a4, .int .i64 a5, .bool a6, .int .u64 a7, .int .i64 a8], .agg #[.bool b0, .int .i64 b1, .bool b2, .int .u64 b3, .int .i64 b4, .int .i64 b5, .bool b6, .int .u64 b7, .int .i64 b8]] w fun e w' => e = .returned (.bool (withinI ⟨a0, ⟨a1, a2, a3, a4⟩, ⟨a5, a6, a7, a8⟩⟩ ⟨b0, ⟨b1, b2, b3, b4⟩, ⟨b5, b6, b7, b8⟩⟩)) ∧ Below w.heap.size w w' := by
  unfold withinI withinF
  have HF := Lib.hid (fun W => r8fair_calls a0 a1 a2 a3 a4 a5 a6 a7 a8 W)
  have HG := Lib.hid (fun W => r8fair_calls b0 b1 b2 b3 b4 b5 b6 b7 b8 W)
  generalize fairI ⟨a0, ⟨a1, a2, a3, a4⟩, ⟨a5, a6, a7, a8⟩⟩ = c at HF ⊢
  generalize fairI ⟨b0, ⟨b1, b2, b3, b4⟩, ⟨b5, b6, b7, b8⟩⟩ = d at HG ⊢
  obtain ⟨c0, ⟨c1, c2, c3, c4⟩, ⟨c5, c6, c7, c8⟩⟩ := c
  obtain ⟨d0, ⟨d1, d2, d3, d4⟩, ⟨d5, d6, d7, d8⟩⟩ := d
  dsimp only at HF HG ⊢
  have HC := Lib.hid (fun W => rcmpN_calls d1 d2 d3 d4 c1 c2 c3 c4 W)
  have HD := Lib.hid (fun W => rcmpN_calls c5 c6 c7 c8 d5 d6 d7 d8 W)
  generalize cmpN ⟨d1, d2, d3, d4⟩ ⟨c1, c2, c3, c4⟩ = l at HC ⊢
  generalize cmpN ⟨c5, c6, c7, c8⟩ ⟨d5, d6, d7, d8⟩ = h at HD ⊢
  have BB := (Blk.new1 w (.cells #[.bool a0, .int .i64 a1, .bool a2, .int .u64 a3, .int .i64 a4, .int .i64 a5, .bool a6, .int .u64 a7, .int .i64 a8] 26) 26 #[.bool b0, .int .i64 b1, .bool b2, .int .u64 b3, .int .i64 b4, .int .i64 b5, .bool b6, .int .u64 b7, .int .i64 b8])
  have HB := bl_alloc (bl_alloc (Below.refl w.heap.size w) (.cells #[.bool a0, .int .i64 a1, .bool a2, .int .u64 a3, .int .i64 a4, .int .i64 a5, .bool a6, .int .u64 a7, .int .i64 a8] 26)) (.cells #[.bool b0, .int .i64 b1, .bool b2, .int .u64 b3, .int .i64 b4, .int .i64 b5, .bool b6, .int .u64 b7, .int .i64 b8] 26)
  go_enter Try.func87, Try.ntmps87
  go_wp2_with fail
  refine (HF.out _).mono ?_
  rintro e w1 ⟨rfl, hb⟩
  have BB := (BB.call hb).alloc (.cells #[.bool c0, .int .i64 c1, .bool c2, .int .u64 c3, .int .i64 c4, .int .i64 c5, .bool c6, .int .u64 c7, .int .i64 c8] 26)
  have HB := bl_alloc (bl_trans HB hb) (.cells #[.bool c0, .int .i64 c1, .bool c2, .int .u64 c3, .int .i64 c4, .int .i64 c5, .bool c6, .int .u64 c7, .int .i64 c8] 26)
  have BC := Blk.new w1 26 #[.bool c0, .int .i64 c1, .bool c2, .int .u64 c3, .int .i64 c4, .int .i64 c5, .bool c6, .int .u64 c7, .int .i64 c8]
  clear hb
  obtain ⟨⟨p0, p1, p2, p3, p4, p5, p6, p7, p8⟩, _⟩ := BB.c9
  go_wp2_with fail
  refine (HG.out _).mono ?_
  rintro e w2 ⟨rfl, hb⟩
  clear p0 p1 p2 p3 p4 p5 p6 p7 p8
  have HB4 := bl_alloc (bl_trans HB hb) (.cells #[.bool d0, .int .i64 d1, .bool d2, .int .u64 d3, .int .i64 d4, .int .i64 d5, .bool d6, .int .u64 d7, .int .i64 d8] 26)
  have BX4 := (BC.call hb).alloc (.cells #[.bool d0, .int .i64 d1, .bool d2, .int .u64 d3, .int .i64 d4, .int .i64 d5, .bool d6, .int .u64 d7, .int .i64 d8] 26)
  have BY4 := Blk.new w2 26 #[.bool d0, .int .i64 d1, .bool d2, .int .u64 d3, .int .i64 d4, .int .i64 d5, .bool d6, .int .u64 d7, .int .i64 d8]
  clear hb BB BC HB HF HG
  cases c0
  · cases d0
    · cases hl : decide (l ≤ 0)
      · have Hl := Lib.hid hl
        obtain ⟨⟨p0, p1, p2, p3, p4, p5, p6, p7, p8⟩, _⟩ := BX4.c9
        obtain ⟨⟨r0, r1, r2, r3, r4, r5, r6, r7, r8⟩, _⟩ := BY4.c9
        go_wp2_with (go_at_call 76; first
          | ((with_reducible refine (HC.out _).mono ?_); rintro e w5 ⟨rfl, hb⟩; have BX5 := BX4.call hb; have BY5 := BY4.call hb; have HB5 := bl_trans HB4 hb; obtain ⟨⟨u0, u1, u2, u3, u4, u5, u6, u7, u8⟩, _⟩ := BX5.c9; obtain ⟨⟨v0, v1, v2, v3, v4, v5, v6, v7, v8⟩, _⟩ := BY5.c9; clear hb)
          | ((with_reducible refine (HD.out _).mono ?_); rintro e w6 ⟨rfl, hb⟩; have HB6 := bl_trans HB5 hb; clear hb))
        all_goals go_ret
        all_goals exact ⟨by first | rfl | (simp; done) | (rw [Hl.out]; rfl) | (rw [Hl.out, Hh.out]; rfl), by first | exact HB6 | exact HB5 | exact HB4⟩
      · have Hl := Lib.hid hl
        cases hh : decide (h ≤ 0)
        · have Hh := Lib.hid hh
          obtain ⟨⟨p0, p1, p2, p3, p4, p5, p6, p7, p8⟩, _⟩ := BX4.c9
          obtain ⟨⟨r0, r1, r2, r3, r4, r5, r6, r7, r8⟩, _⟩ := BY4.c9
          go_wp2_with (go_at_call 76; first
            | ((with_reducible refine (HC.out _).mono ?_); rintro e w5 ⟨rfl, hb⟩; have BX5 := BX4.call hb; have BY5 := BY4.call hb; have HB5 := bl_trans HB4 hb; obtain ⟨⟨u0, u1, u2, u3, u4, u5, u6, u7, u8⟩, _⟩ := BX5.c9; obtain ⟨⟨v0, v1, v2, v3, v4, v5, v6, v7, v8⟩, _⟩ := BY5.c9; clear hb)
            | ((with_reducible refine (HD.out _).mono ?_); rintro e w6 ⟨rfl, hb⟩; have HB6 := bl_trans HB5 hb; clear hb))
          all_goals go_ret
          all_goals exact ⟨by first | rfl | (simp; done) | (rw [Hl.out]; rfl) | (rw [Hl.out, Hh.out]; rfl), by first | exact HB6 | exact HB5 | exact HB4⟩
        · have Hh := Lib.hid hh
          obtain ⟨⟨p0, p1, p2, p3, p4, p5, p6, p7, p8⟩, _⟩ := BX4.c9
          obtain ⟨⟨r0, r1, r2, r3, r4, r5, r6, r7, r8⟩, _⟩ := BY4.c9
          go_wp2_with (go_at_call 76; first
            | ((with_reducible refine (HC.out _).mono ?_); rintro e w5 ⟨rfl, hb⟩; have BX5 := BX4.call hb; have BY5 := BY4.call hb; have HB5 := bl_trans HB4 hb; obtain ⟨⟨u0, u1, u2, u3, u4, u5, u6, u7, u8⟩, _⟩ := BX5.c9; obtain ⟨⟨v0, v1, v2, v3, v4, v5, v6, v7, v8⟩, _⟩ := BY5.c9; clear hb)
            | ((with_reducible refine (HD.out _).mono ?_); rintro e w6 ⟨rfl, hb⟩; have HB6 := bl_trans HB5 hb; clear hb))
          all_goals go_ret
          all_goals exact ⟨by first | rfl | (simp; done) | (rw [Hl.out]; rfl) | (rw [Hl.out, Hh.out]; rfl), by first | exact HB6 | exact HB5 | exact HB4⟩
    · skip
      obtain ⟨⟨p0, p1, p2, p3, p4, p5, p6, p7, p8⟩, _⟩ := BX4.c9
      obtain ⟨⟨r0, r1, r2, r3, r4, r5, r6, r7, r8⟩, _⟩ := BY4.c9
      go_wp2_with (go_at_call 76; first
        | ((with_reducible refine (HC.out _).mono ?_); rintro e w5 ⟨rfl, hb⟩; have BX5 := BX4.call hb; have BY5 := BY4.call hb; have HB5 := bl_trans HB4 hb; obtain ⟨⟨u0, u1, u2, u3, u4, u5, u6, u7, u8⟩, _⟩ := BX5.c9; obtain ⟨⟨v0, v1, v2, v3, v4, v5, v6, v7, v8⟩, _⟩ := BY5.c9; clear hb)
        | ((with_reducible refine (HD.out _).mono ?_); rintro e w6 ⟨rfl, hb⟩; have HB6 := bl_trans HB5 hb; clear hb))
      all_goals go_ret
      all_goals exact ⟨by first | rfl | (simp; done) | (rw [Hl.out]; rfl) | (rw [Hl.out, Hh.out]; rfl), by first | exact HB6 | exact HB5 | exact HB4⟩
  · skip
    obtain ⟨⟨p0, p1, p2, p3, p4, p5, p6, p7, p8⟩, _⟩ := BX4.c9
    obtain ⟨⟨r0, r1, r2, r3, r4, r5, r6, r7, r8⟩, _⟩ := BY4.c9
    go_wp2_with (go_at_call 76; first
      | ((with_reducible refine (HC.out _).mono ?_); rintro e w5 ⟨rfl, hb⟩; have BX5 := BX4.call hb; have BY5 := BY4.call hb; have HB5 := bl_trans HB4 hb; obtain ⟨⟨u0, u1, u2, u3, u4, u5, u6, u7, u8⟩, _⟩ := BX5.c9; obtain ⟨⟨v0, v1, v2, v3, v4, v5, v6, v7, v8⟩, _⟩ := BY5.c9; clear hb)
      | ((with_reducible refine (HD.out _).mono ?_); rintro e w6 ⟨rfl, hb⟩; have HB6 := bl_trans HB5 hb; clear hb))
    all_goals go_ret
    all_goals exact ⟨by first | rfl | (simp; done) | (rw [Hl.out]; rfl) | (rw [Hl.out, Hh.out]; rfl), by first | exact HB6 | exact HB5 | exact HB4⟩

def rhasF (x : Iv) (n : Num) : Bool := !x.emp && (n.k != 2) && decide (cmpN x.lo n ≤ 0) && decide (cmpN n x.hi ≤ 0)
theorem kind_fin {n : Num} (wn : Wf n) : (fairN n).k ≠ 2 ↔ Go.Proofs.Pl.Fin n := by
  have hm := mayN_fair n
  have hw := fairN_wf wn
  have ht : (0 : Int) < TOP := by decide +kernel
  unfold Go.Proofs.Pl.Fin K
  have hc := may_cases hm
  generalize fairN n = x at hm hw hc
  unfold key mag
  obtain ⟨x0, x1, x2, x3⟩ := x
  unfold Wf at hw
  dsimp only at hc hw ⊢
  have htop : TOP = 1267650600228229401496703205376 := rfl
  rcases hc with ⟨rfl, rfl, rfl, rfl⟩ | ⟨rfl, h1, h2, h3⟩ | ⟨rfl, rfl, rfl⟩
  · simp; omega
  · cases x1 <;> simp <;> omega
  · cases x1 <;> simp
theorem rhas_eq {x : Iv} {n : Num} (wx : WfIv x) (wn : Wf n) : rhasF (fairI x) (fairN n) = hasI x n := by
  rw [Bool.eq_iff_iff, has_iff wx wn, ← kind_fin wn]
  unfold rhasF
  have hw := fairN_wf wn
  rcases fairI_cases x with ⟨f, e⟩ | ⟨f, e⟩
  · have g := (full_iff wx).1 f
    rw [e]
    simp only [Bool.and_eq_true, Bool.not_eq_true', bne_iff_ne, decide_eq_true_eq, g.1]
    rw [cmp_le wx.1 hw, cmp_le hw wx.2, K_of g.2.1, K_of g.2.2.1]
    unfold K
    rw [fairN_fair]
    constructor
    · rintro ⟨⟨⟨_, h1⟩, h2⟩, h3⟩; exact ⟨f, h1, h2, h3⟩
    · rintro ⟨_, h1, h2, h3⟩; exact ⟨⟨⟨trivial, h1⟩, h2⟩, h3⟩
  · rw [e]
    simp [noneI, f]

set_option maxRecDepth 100000 in
set_option maxHeartbeats 8000000 in
theorem r8has_calls (a0 : Bool) (a1 : Int) (a2 : Bool) (a3 a4 a5 : Int) (a6 : Bool) (a7 a8 : Int) (b0 : Int) (b1 : Bool) (b2 b3 : Int) (w : World) (wa : WfIv ⟨a0, ⟨a1, a2, a3, a4⟩, ⟨a5, a6, a7, a8⟩⟩) (wb : Wf ⟨b0, b1, b2, b3⟩) :
    Calls Try.prog 86 #[.agg #[.bool a0, .int .i64 a1, .bool a2, .int .u64 a3, .int .i64 a4, .int .i64 a5, .bool a6, .int .u64 a7, .int .i64 a8], .agg #[.int .i64 b0, .bool b1, .int .u64 b2, .int .i64 b3]] w fun e w' => e = .returned (.bool (hasI ⟨a0, ⟨a1, a2, a3, a4⟩, ⟨a5, a6, a7, a8⟩⟩ ⟨b0, b1, b2, b3⟩)) ∧ Below w.heap.size w w' := by
  rw [← rhas_eq wa wb]
  unfold rhasF
  have HF := Lib.hid (fun W => r8fair_calls a0 a1 a2 a3 a4 a5 a6 a7 a8 W)
  have HG := Lib.hid (fun W => r6fairN_calls b0 b1 b2 b3 W)
  generalize fairI ⟨a0, ⟨a1, a2, a3, a4⟩, ⟨a5, a6, a7, a8⟩⟩ = c at HF ⊢
  generalize fairN ⟨b0, b1, b2, b3⟩ = d at HG ⊢
  obtain ⟨c0, ⟨c1, c2, c3, c4⟩, ⟨c5, c6, c7, c8⟩⟩ := c
  obtain ⟨d0, d1, d2, d3⟩ := d
  dsimp only at HF HG ⊢
  have HC := Lib.hid (fun W => rcmpN_calls c1 c2 c3 c4 d0 d1 d2 d3 W)
  have HD := Lib.hid (fun W => rcmpN_calls d0 d1 d2 d3 c5 c6 c7 c8 W)
  generalize cmpN ⟨c1, c2, c3, c4⟩ ⟨d0, d1, d2, d3⟩ = l at HC ⊢
  generalize cmpN ⟨d0, d1, d2, d3⟩ ⟨c5, c6, c7, c8⟩ = h at HD ⊢
  have BB := (Blk.new1 w (.cells #[.bool a0, .int .i64 a1, .bool a2, .int .u64 a3, .int .i64 a4, .int .i64 a5, .bool a6, .int .u64 a7, .int .i64 a8] 26) 24 #[.int .i64 b0, .bool b1, .int .u64 b2, .int .i64 b3])
  have HB := bl_alloc (bl_alloc (Below.refl w.heap.size w) (.cells #[.bool a0, .int .i64 a1, .bool a2, .int .u64 a3, .int .i64 a4, .int .i64 a5, .bool a6, .int .u64 a7, .int .i64 a8] 26)) (.cells #[.int .i64 b0, .bool b1, .int .u64 b2, .int .i64 b3] 24)
  go_enter Try.func86, Try.ntmps86
  go_wp2_with fail
  refine (HF.out _).mono ?_
  rintro e w1 ⟨rfl, hb⟩
  have BB := (BB.call hb).alloc (.cells #[.bool c0, .int .i64 c1, .bool c2, .int .u64 c3, .int .i64 c4, .int .i64 c5, .bool c6, .int .u64 c7, .int .i64 c8] 26)
  have HB := bl_alloc (bl_trans HB hb) (.cells #[.bool c0, .int .i64 c1, .bool c2, .int .u64 c3, .int .i64 c4, .int .i64 c5, .bool c6, .int .u64 c7, .int .i64 c8] 26)
  have BC := Blk.new w1 26 #[.bool c0, .int .i64 c1, .bool c2, .int .u64 c3, .int .i64 c4, .int .i64 c5, .bool c6, .int .u64 c7, .int .i64 c8]
  clear hb
  obtain ⟨⟨p0, p1, p2, p3⟩, _⟩ := BB.c4
  go_wp2_with fail
  refine (HG.out _).mono ?_
  rintro e w2 ⟨rfl, hb⟩
  clear p0 p1 p2 p3
  have HB4 := bl_alloc (bl_trans HB hb) (.cells #[.int .i64 d0, .bool d1, .int .u64 d2, .int .i64 d3] 24)
  have BX4 := (BC.call hb).alloc (.cells #[.int .i64 d0, .bool d1, .int .u64 d2, .int .i64 d3] 24)
  have BY4 := Blk.new w2 24 #[.int .i64 d0, .bool d1, .int .u64 d2, .int .i64 d3]
  clear hb BB BC HB HF HG
  cases c0
  · by_cases hk : d0 = 2
    · subst hk
      obtain ⟨⟨p0, p1, p2, p3, p4, p5, p6, p7, p8⟩, _⟩ := BX4.c9
      obtain ⟨⟨r0, r1, r2, r3⟩, _⟩ := BY4.c4
      go_wp2_with (go_at_call 76; first
        | ((with_reducible refine (HC.out _).mono ?_); rintro e w5 ⟨rfl, hb⟩; have BX5 := BX4.call hb; have BY5 := BY4.call hb; have HB5 := bl_trans HB4 hb; obtain ⟨⟨u0, u1, u2, u3, u4, u5, u6, u7, u8⟩, _⟩ := BX5.c9; obtain ⟨⟨v0, v1, v2, v3⟩, _⟩ := BY5.c4; clear hb)
        | ((with_reducible refine (HD.out _).mono ?_); rintro e w6 ⟨rfl, hb⟩; have HB6 := bl_trans HB5 hb; clear hb))
      all_goals go_ret
      all_goals exact ⟨by first | rfl | (simp; done) | (rw [hk1, Hl.out]; rfl) | (rw [hk1, Hl.out, Hh.out]; rfl) | (simp only [hk1, Hl.out]; rfl) | (simp only [hk1, Hl.out, Hh.out]; rfl), by first | exact HB6 | exact HB5 | exact HB4⟩
    · have hk1 : (d0 != 2) = true := bne_iff_ne.2 hk
      cases hl : decide (l ≤ 0)
      · have Hl := Lib.hid hl
        obtain ⟨⟨p0, p1, p2, p3, p4, p5, p6, p7, p8⟩, _⟩ := BX4.c9
        obtain ⟨⟨r0, r1, r2, r3⟩, _⟩ := BY4.c4
        go_wp2_with (go_at_call 76; first
          | ((with_reducible refine (HC.out _).mono ?_); rintro e w5 ⟨rfl, hb⟩; have BX5 := BX4.call hb; have BY5 := BY4.call hb; have HB5 := bl_trans HB4 hb; obtain ⟨⟨u0, u1, u2, u3, u4, u5, u6, u7, u8⟩, _⟩ := BX5.c9; obtain ⟨⟨v0, v1, v2, v3⟩, _⟩ := BY5.c4; clear hb)
          | ((with_reducible refine (HD.out _).mono ?_); rintro e w6 ⟨rfl, hb⟩; have HB6 := bl_trans HB5 hb; clear hb))
        all_goals go_ret
        all_goals exact ⟨by first | rfl | (simp; done) | (rw [hk1, Hl.out]; rfl) | (rw [hk1, Hl.out, Hh.out]; rfl) | (simp only [hk1, Hl.out]; rfl) | (simp only [hk1, Hl.out, Hh.out]; rfl), by first | exact HB6 | exact HB5 | exact HB4⟩
      · have Hl := Lib.hid hl
        cases hh : decide (h ≤ 0)
        · have Hh := Lib.hid hh
          obtain ⟨⟨p0, p1, p2, p3, p4, p5, p6, p7, p8⟩, _⟩ := BX4.c9
          obtain ⟨⟨r0, r1, r2, r3⟩, _⟩ := BY4.c4
          go_wp2_with (go_at_call 76; first
            | ((with_reducible refine (HC.out _).mono ?_); rintro e w5 ⟨rfl, hb⟩; have BX5 := BX4.call hb; have BY5 := BY4.call hb; have HB5 := bl_trans HB4 hb; obtain ⟨⟨u0, u1, u2, u3, u4, u5, u6, u7, u8⟩, _⟩ := BX5.c9; obtain ⟨⟨v0, v1, v2, v3⟩, _⟩ := BY5.c4; clear hb)
            | ((with_reducible refine (HD.out _).mono ?_); rintro e w6 ⟨rfl, hb⟩; have HB6 := bl_trans HB5 hb; clear hb))
          all_goals go_ret
          all_goals exact ⟨by first | rfl | (simp; done) | (rw [hk1, Hl.out]; rfl) | (rw [hk1, Hl.out, Hh.out]; rfl) | (simp only [hk1, Hl.out]; rfl) | (simp only [hk1, Hl.out, Hh.out]; rfl), by first | exact HB6 | exact HB5 | exact HB4⟩
        · have Hh := Lib.hid hh
          obtain ⟨⟨p0, p1, p2, p3, p4, p5, p6, p7, p8⟩, _⟩ := BX4.c9
          obtain ⟨⟨r0, r1, r2, r3⟩, _⟩ := BY4.c4
          go_wp2_with (go_at_call 76; first
            | ((with_reducible refine (HC.out _).mono ?_); rintro e w5 ⟨rfl, hb⟩; have BX5 := BX4.call hb; have BY5 := BY4.call hb; have HB5 := bl_trans HB4 hb; obtain ⟨⟨u0, u1, u2, u3, u4, u5, u6, u7, u8⟩, _⟩ := BX5.c9; obtain ⟨⟨v0, v1, v2, v3⟩, _⟩ := BY5.c4; clear hb)
            | ((with_reducible refine (HD.out _).mono ?_); rintro e w6 ⟨rfl, hb⟩; have HB6 := bl_trans HB5 hb; clear hb))
          all_goals go_ret
          all_goals exact ⟨by first | rfl | (simp; done) | (rw [hk1, Hl.out]; rfl) | (rw [hk1, Hl.out, Hh.out]; rfl) | (simp only [hk1, Hl.out]; rfl) | (simp only [hk1, Hl.out, Hh.out]; rfl), by first | exact HB6 | exact HB5 | exact HB4⟩
  · skip
    obtain ⟨⟨p0, p1, p2, p3, p4, p5, p6, p7, p8⟩, _⟩ := BX4.c9
    obtain ⟨⟨r0, r1, r2, r3⟩, _⟩ := BY4.c4
    go_wp2_with (go_at_call 76; first
      | ((with_reducible refine (HC.out _).mono ?_); rintro e w5 ⟨rfl, hb⟩; have BX5 := BX4.call hb; have BY5 := BY4.call hb; have HB5 := bl_trans HB4 hb; obtain ⟨⟨u0, u1, u2, u3, u4, u5, u6, u7, u8⟩, _⟩ := BX5.c9; obtain ⟨⟨v0, v1, v2, v3⟩, _⟩ := BY5.c4; clear hb)
      | ((with_reducible refine (HD.out _).mono ?_); rintro e w6 ⟨rfl, hb⟩; have HB6 := bl_trans HB5 hb; clear hb))
    all_goals go_ret
    all_goals exact ⟨by first | rfl | (simp; done) | (rw [hk1, Hl.out]; rfl) | (rw [hk1, Hl.out, Hh.out]; rfl) | (simp only [hk1, Hl.out]; rfl) | (simp only [hk1, Hl.out, Hh.out]; rfl), by first | exact HB6 | exact HB5 | exact HB4⟩
end Go.Proofs.Ytagojbgmgkkdpaa.Wk


/- Walks: the reference's Most and Least, for every slice of numbers: they are num's. -/
namespace Go.Proofs.Ytagojbgmgkkdpaa.Wk
open Go.RowKit Go.Proofs.Pl Go.Proofs.YtagojbgmgkkdpaaW.PrintLast
set_option linter.unusedSimpArgs false
set_option linter.unusedVariables false

set_option maxRecDepth 100000 in
set_option maxHeartbeats 4000000 in
theorem rmostN_calls (A : Option Addr) (n c : Nat) (xs : List Num) (w : World) (hs : SlN w w.heap.size A n xs) (hn : n ≤ 4611686018427387904) :
    Calls Try.prog 114 #[.slice A n c] w fun e w' => e = .returned (.agg #[.int .i64 (mostN xs).k, .bool (mostN xs).n, .int .u64 (mostN xs).m, .int .i64 (mostN xs).e]) ∧ Below w.heap.size w w' := by
  go_enter Try.func114, Try.ntmps114
  go_wp2_with (go_at_call 106; refine (rinfN_lit true _).mono ?_; rintro e w1 ⟨rfl, hb⟩; have BR1 := (Blk.new w _ _).call hb; have HB1 := bl_trans (bl_alloc (Below.refl w.heap.size w) _) hb; have hz : w.heap.size < w1.heap.size := (by have := hb.size; simp at this; omega); clear hb)
  have BO0 := Blk.new w1 24 #[.int .i64 2, .bool true, .int .u64 0, .int .i64 0]
  have BR0 := BR1.alloc (.cells #[.int .i64 2, .bool true, .int .u64 0, .int .i64 0] 24)
  have HB0 := bl_alloc HB1 (.cells #[.int .i64 2, .bool true, .int .u64 0, .int .i64 0] 24)
  clear HB1 BR1
  generalize (w1.alloc (.cells #[.int .i64 2, .bool true, .int .u64 0, .int .i64 0] 24)) = W1 at BO0 BR0 HB0 ⊢
  generalize w1.heap.size = OB at BO0 hz ⊢
  go_loopw [4] (fun i wr => ∃ k : Nat, k ≤ n ∧ i = .int .i64 k ∧ ∃ o0 o1 o2 o3, (⟨o0, o1, o2, o3⟩ : Num) = (xs.take k).foldl mostStep (infN true) ∧ Blk wr OB 24 #[.int .i64 o0, .bool o1, .int .u64 o2, .int .i64 o3] ∧ Blk wr w.heap.size 24 #[.int .i64 0, .bool false, .int .u64 0, .int .i64 0] ∧ Below w.heap.size w wr) (fun i _ => n - (intOf i).toNat)
  case atStart => exact ⟨0, Nat.zero_le _, rfl, 2, true, 0, 0, rfl, BO0, BR0, HB0⟩
  case round =>
    obtain ⟨k, hk, rfl, o0, o1, o2, o3, ho, BO, BR, HB⟩ := hrel
    have Ho := Lib.hid ho
    clear ho BO0 BR0 HB0
    by_cases hlt : k < n
    · obtain ⟨b, off, ⟨x0, x1, x2, x3⟩, rfl, hbB, hx, e0, e1, e2, e3⟩ := (hs.below HB).at_ hlt
      have hst : (xs.take (k + 1)).foldl mostStep (infN true) = if 0 < cmpN ⟨x0, x1, x2, x3⟩ ⟨o0, o1, o2, o3⟩ then fairN ⟨x0, x1, x2, x3⟩ else ⟨o0, o1, o2, o3⟩ := by
        rw [foldl_take_succ _ _ xs k _ hx, ← Ho.out]; rfl
      have Hs := Lib.hid hst
      clear hst hx
      have hbW : b < wr.heap.size := Nat.lt_of_lt_of_le hbB HB.size
      have HC := Lib.hid (fun W => rcmpN_calls x0 x1 x2 x3 o0 o1 o2 o3 W)
      have HF := Lib.hid (fun W => rfairN_calls x0 x1 x2 x3 W)
      generalize cmpN ⟨x0, x1, x2, x3⟩ ⟨o0, o1, o2, o3⟩ = r at HC Hs
      generalize fairN ⟨x0, x1, x2, x3⟩ = f at HF Hs
      obtain ⟨f0, f1, f2, f3⟩ := f
      dsimp only at HF
      obtain ⟨⟨y0, y1, y2, y3⟩, _⟩ := BO.c4
      have hOl := BO.lt
      by_cases hr : 0 < r
      · skip
        go_wp2_with fail
        replace BO := BO.drew
        replace BR := BR.drew
        replace HB := bl_drew HB
        replace e0 : wr.drew.cell? _ = _ := e0
        replace e1 : wr.drew.cell? _ = _ := e1
        replace e2 : wr.drew.cell? _ = _ := e2
        replace e3 : wr.drew.cell? _ = _ := e3
        refine start_ (n := 7) (S := fun w' => w'.cell? ⟨b, off + k * 4, none⟩ = some (.int .i64 x0) ∧ w'.cell? ⟨b, off + k * 4 + 1, none⟩ = some (.bool x1) ∧ w'.cell? ⟨b, off + k * 4 + 2, none⟩ = some (.int .u64 x2) ∧ w'.cell? ⟨b, off + k * 4 + 3, none⟩ = some (.int .i64 x3) ∧ w'.cell? ⟨OB, 0, none⟩ = some (.int .i64 o0) ∧ w'.cell? ⟨OB, 1, none⟩ = some (.bool o1) ∧ w'.cell? ⟨OB, 2, none⟩ = some (.int .u64 o2) ∧ w'.cell? ⟨OB, 3, none⟩ = some (.int .i64 o3)) (ds := []) #[false, false, false, false, false, false, false] (by kernel_rfl) rfl rfl ⟨e0, e1, e2, e3, BO.cell 0, BO.cell 1, BO.cell 2, BO.cell 3⟩ (fun hHeld => ?_)
        generalize hWW : World.drew _ = W5 at BO BR HB e0 e1 e2 e3 hHeld ⊢
        clear hWW
        refine pure_ (i := 0) (N := some 12) (v := ?_) (a' := ?_) #[true, false, false, false, false, false, false] rfl rfl (by kernel_rfl) (fun _ _ _ h => h) (Or.inl ⟨by rfl, ?_⟩) ?_ ?_
        rotate_left
        · intro w'
          go_simp
          with_reducible rfl
        rotate_left
        · simp only [Act.put, List.setIfInBounds_toArray, List.set_cons_zero, List.set_cons_succ]
          rfl
        refine pure_ (i := 1) (N := some 13) (v := ?_) (a' := ?_) #[true, true, false, false, false, false, false] rfl rfl (by kernel_rfl) (fun _ _ _ h => h) (Or.inl ⟨by rfl, ?_⟩) ?_ ?_
        rotate_left
        · intro w'
          go_simp
          with_reducible rfl
        rotate_left
        · simp only [Act.put, List.setIfInBounds_toArray, List.set_cons_zero, List.set_cons_succ]
          rfl
        refine pure_ (i := 2) (N := some 14) (v := ?_) (a' := ?_) #[true, true, true, false, false, false, false] rfl rfl (by kernel_rfl) (fun _ _ _ h => h) (Or.inl ⟨by rfl, ?_⟩) ?_ ?_
        rotate_left
        · intro w'
          go_simp
          with_reducible rfl
        rotate_left
        · simp only [Act.put, List.setIfInBounds_toArray, List.set_cons_zero, List.set_cons_succ]
          rfl
        refine take_ (i := 3) (N := some 15) (v := ?_) (a' := ?_) #[true, true, true, true, false, false, false] rfl rfl (by kernel_rfl) (fun _ _ _ h => h) (Or.inl ⟨by rfl, ?_⟩) hHeld ?_ ?_
        rotate_left
        · rintro w' ⟨s0_, s1_, s2_, s3_, s4_, s5_, s6_, s7_⟩
          go_simp
          with_reducible rfl
        rotate_left
        · simp only [Act.put, List.setIfInBounds_toArray, List.set_cons_zero, List.set_cons_succ]
          rfl
        refine take_ (i := 4) (N := some 16) (v := ?_) (a' := ?_) #[true, true, true, true, true, false, false] rfl rfl (by kernel_rfl) (fun _ _ _ h => h) (Or.inl ⟨by rfl, ?_⟩) hHeld ?_ ?_
        rotate_left
        · rintro w' ⟨s0_, s1_, s2_, s3_, s4_, s5_, s6_, s7_⟩
          go_simp
          with_reducible rfl
        rotate_left
        · simp only [Act.put, List.setIfInBounds_toArray, List.set_cons_zero, List.set_cons_succ]
          rfl
        refine one_ (i := 5) (N := some 17) #[true, true, true, true, true, true, false] rfl rfl (by kernel_rfl) (by decide) (fun K hK => ?_)
        refine goes_ Try.func76 (by kernel_rfl) rfl #[.agg #[.int .i64 x0, .bool x1, .int .u64 x2, .int .i64 x3], .agg #[.int .i64 o0, .bool o1, .int .u64 o2, .int .i64 o3]] (by rfl) rfl rfl (by simp only [List.map_toArray, List.map_cons, List.map_nil] <;> rfl) ?_
        with_reducible refine (HC.out _).mono ?_
        rintro e w2 ⟨rfl, hb⟩
        refine ⟨_, rfl, ?_⟩
        have BO := BO.call hb
        have BR := BR.call hb
        have hbW' : b < W5.heap.size := Nat.lt_of_lt_of_le hbB HB.size
        replace e0 := (hb.cell (p := ⟨b, off + k * 4, none⟩) hbW').trans e0
        replace e1 := (hb.cell (p := ⟨b, off + k * 4 + 1, none⟩) hbW').trans e1
        replace e2 := (hb.cell (p := ⟨b, off + k * 4 + 2, none⟩) hbW').trans e2
        replace e3 := (hb.cell (p := ⟨b, off + k * 4 + 3, none⟩) hbW').trans e3
        have HB := bl_trans HB hb
        refine hK.out _ _ ⟨e0, e1, e2, e3, BO.cell 0, BO.cell 1, BO.cell 2, BO.cell 3⟩ (fun hHeld => ?_)
        clear hK K hb
        refine norm_ (a' := ?_) ?_ ?_
        rotate_left
        · show Act.put _ (some 17) _ = _
          simp only [Act.put, List.setIfInBounds_toArray, List.set_cons_zero, List.set_cons_succ]
          rfl
        refine pure_ (i := 6) (N := some 18) (v := ?_) (a' := ?_) #[true, true, true, true, true, true, true] rfl rfl (by kernel_rfl) (fun _ _ _ h => h) (Or.inl ⟨by rfl, ?_⟩) ?_ ?_
        rotate_left
        · intro w'
          go_simp
          with_reducible rfl
        rotate_left
        · simp only [Act.put, List.setIfInBounds_toArray, List.set_cons_zero, List.set_cons_succ]
          rfl
        refine done_ (by kernel_rfl) ?_
        clear hHeld
        go_wp2_with (go_at_call 111; refine (HF.out _).mono ?_; rintro e w3 ⟨rfl, hb⟩; have BO3 := BO.call hb; have BR3 := BR.call hb; have HB3 := bl_trans HB hb; obtain ⟨W4, hW4, BO4, hK, hL, _⟩ := put4 BO3 (.int .i64 f0) (.bool f1) (.int .u64 f2) (.int .i64 f3); have BR4 := hK _ _ _ (Nat.ne_of_lt hz) BR3; have HB4 := hL w HB3 (Nat.le_of_lt hz); obtain ⟨⟨p0, p1, p2, p3⟩, ⟨g0, g1, g2, g3⟩⟩ := BO3.c4)
        go_roundw
        case rel => exact ⟨k + 1, by omega, by go_num, f0, f1, f2, f3, by rw [Hs.out, if_pos hr], BO4, BR4, HB4⟩
        case measure => simp [intOf]; omega
      · skip
        go_wp2_with fail
        replace BO := BO.drew
        replace BR := BR.drew
        replace HB := bl_drew HB
        replace e0 : wr.drew.cell? _ = _ := e0
        replace e1 : wr.drew.cell? _ = _ := e1
        replace e2 : wr.drew.cell? _ = _ := e2
        replace e3 : wr.drew.cell? _ = _ := e3
        refine start_ (n := 7) (S := fun w' => w'.cell? ⟨b, off + k * 4, none⟩ = some (.int .i64 x0) ∧ w'.cell? ⟨b, off + k * 4 + 1, none⟩ = some (.bool x1) ∧ w'.cell? ⟨b, off + k * 4 + 2, none⟩ = some (.int .u64 x2) ∧ w'.cell? ⟨b, off + k * 4 + 3, none⟩ = some (.int .i64 x3) ∧ w'.cell? ⟨OB, 0, none⟩ = some (.int .i64 o0) ∧ w'.cell? ⟨OB, 1, none⟩ = some (.bool o1) ∧ w'.cell? ⟨OB, 2, none⟩ = some (.int .u64 o2) ∧ w'.cell? ⟨OB, 3, none⟩ = some (.int .i64 o3)) (ds := []) #[false, false, false, false, false, false, false] (by kernel_rfl) rfl rfl ⟨e0, e1, e2, e3, BO.cell 0, BO.cell 1, BO.cell 2, BO.cell 3⟩ (fun hHeld => ?_)
        generalize hWW : World.drew _ = W5 at BO BR HB e0 e1 e2 e3 hHeld ⊢
        clear hWW
        refine pure_ (i := 0) (N := some 12) (v := ?_) (a' := ?_) #[true, false, false, false, false, false, false] rfl rfl (by kernel_rfl) (fun _ _ _ h => h) (Or.inl ⟨by rfl, ?_⟩) ?_ ?_
        rotate_left
        · intro w'
          go_simp
          with_reducible rfl
        rotate_left
        · simp only [Act.put, List.setIfInBounds_toArray, List.set_cons_zero, List.set_cons_succ]
          rfl
        refine pure_ (i := 1) (N := some 13) (v := ?_) (a' := ?_) #[true, true, false, false, false, false, false] rfl rfl (by kernel_rfl) (fun _ _ _ h => h) (Or.inl ⟨by rfl, ?_⟩) ?_ ?_
        rotate_left
        · intro w'
          go_simp
          with_reducible rfl
        rotate_left
        · simp only [Act.put, List.setIfInBounds_toArray, List.set_cons_zero, List.set_cons_succ]
          rfl
        refine pure_ (i := 2) (N := some 14) (v := ?_) (a' := ?_) #[true, true, true, false, false, false, false] rfl rfl (by kernel_rfl) (fun _ _ _ h => h) (Or.inl ⟨by rfl, ?_⟩) ?_ ?_
        rotate_left
        · intro w'
          go_simp
          with_reducible rfl
        rotate_left
        · simp only [Act.put, List.setIfInBounds_toArray, List.set_cons_zero, List.set_cons_succ]
          rfl
        refine take_ (i := 3) (N := some 15) (v := ?_) (a' := ?_) #[true, true, true, true, false, false, false] rfl rfl (by kernel_rfl) (fun _ _ _ h => h) (Or.inl ⟨by rfl, ?_⟩) hHeld ?_ ?_
        rotate_left
        · rintro w' ⟨s0_, s1_, s2_, s3_, s4_, s5_, s6_, s7_⟩
          go_simp
          with_reducible rfl
        rotate_left
        · simp only [Act.put, List.setIfInBounds_toArray, List.set_cons_zero, List.set_cons_succ]
          rfl
        refine take_ (i := 4) (N := some 16) (v := ?_) (a' := ?_) #[true, true, true, true, true, false, false] rfl rfl (by kernel_rfl) (fun _ _ _ h => h) (Or.inl ⟨by rfl, ?_⟩) hHeld ?_ ?_
        rotate_left
        · rintro w' ⟨s0_, s1_, s2_, s3_, s4_, s5_, s6_, s7_⟩
          go_simp
          with_reducible rfl
        rotate_left
        · simp only [Act.put, List.setIfInBounds_toArray, List.set_cons_zero, List.set_cons_succ]
          rfl
        refine one_ (i := 5) (N := some 17) #[true, true, true, true, true, true, false] rfl rfl (by kernel_rfl) (by decide) (fun K hK => ?_)
        refine goes_ Try.func76 (by kernel_rfl) rfl #[.agg #[.int .i64 x0, .bool x1, .int .u64 x2, .int .i64 x3], .agg #[.int .i64 o0, .bool o1, .int .u64 o2, .int .i64 o3]] (by rfl) rfl rfl (by simp only [List.map_toArray, List.map_cons, List.map_nil] <;> rfl) ?_
        with_reducible refine (HC.out _).mono ?_
        rintro e w2 ⟨rfl, hb⟩
        refine ⟨_, rfl, ?_⟩
        have BO := BO.call hb
        have BR := BR.call hb
        have hbW' : b < W5.heap.size := Nat.lt_of_lt_of_le hbB HB.size
        replace e0 := (hb.cell (p := ⟨b, off + k * 4, none⟩) hbW').trans e0
        replace e1 := (hb.cell (p := ⟨b, off + k * 4 + 1, none⟩) hbW').trans e1
        replace e2 := (hb.cell (p := ⟨b, off + k * 4 + 2, none⟩) hbW').trans e2
        replace e3 := (hb.cell (p := ⟨b, off + k * 4 + 3, none⟩) hbW').trans e3
        have HB := bl_trans HB hb
        refine hK.out _ _ ⟨e0, e1, e2, e3, BO.cell 0, BO.cell 1, BO.cell 2, BO.cell 3⟩ (fun hHeld => ?_)
        clear hK K hb
        refine norm_ (a' := ?_) ?_ ?_
        rotate_left
        · show Act.put _ (some 17) _ = _
          simp only [Act.put, List.setIfInBounds_toArray, List.set_cons_zero, List.set_cons_succ]
          rfl
        refine pure_ (i := 6) (N := some 18) (v := ?_) (a' := ?_) #[true, true, true, true, true, true, true] rfl rfl (by kernel_rfl) (fun _ _ _ h => h) (Or.inl ⟨by rfl, ?_⟩) ?_ ?_
        rotate_left
        · intro w'
          go_simp
          with_reducible rfl
        rotate_left
        · simp only [Act.put, List.setIfInBounds_toArray, List.set_cons_zero, List.set_cons_succ]
          rfl
        refine done_ (by kernel_rfl) ?_
        clear hHeld
        go_wp2
        go_roundw
        case rel => exact ⟨k + 1, by omega, by go_num, o0, o1, o2, o3, by rw [Hs.out, if_neg (by omega)], BO, BR, HB⟩
        case measure => simp [intOf]; omega
    · have hkn : k = n := by omega
      have Hf : Hid ((⟨o0, o1, o2, o3⟩ : Num) = mostN xs) := by
        have h1 := Ho.out
        rw [List.take_of_length_le (by have := hs.1; omega)] at h1
        exact h1
      clear Ho hkn
      have hlt' : n ≤ k := by omega
      obtain ⟨W4, hW4, BR4, _, hL, _⟩ := put4 BR (.int .i64 o0) (.bool o1) (.int .u64 o2) (.int .i64 o3)
      have HB4 := hL w HB (Nat.le_refl _)
      obtain ⟨⟨q0, q1, q2, q3⟩, _⟩ := BO.c4
      obtain ⟨⟨p0, p1, p2, p3⟩, ⟨g0, g1, g2, g3⟩⟩ := BR.c4
      go_wp2
      refine bodyPost_ret (results_cell_row rfl _ _ w.heap.size 24 #[.int .i64 o0, .bool o1, .int .u64 o2, .int .i64 o3] (0, 0) _ rfl BR4 Try.underlying24 rfl (by kernel_rfl)) rfl ⟨?_, HB4⟩
      rw [← Hf.out]

set_option maxRecDepth 100000 in
set_option maxHeartbeats 4000000 in
theorem rleastN_calls (A : Option Addr) (n c : Nat) (xs : List Num) (w : World) (hs : SlN w w.heap.size A n xs) (hn : n ≤ 4611686018427387904) :
    Calls Try.prog 115 #[.slice A n c] w fun e w' => e = .returned (.agg #[.int .i64 (leastN xs).k, .bool (leastN xs).n, .int .u64 (leastN xs).m, .int .i64 (leastN xs).e]) ∧ Below w.heap.size w w' := by
  go_enter Try.func115, Try.ntmps115
  go_wp2_with (go_at_call 106; refine (rinfN_lit false _).mono ?_; rintro e w1 ⟨rfl, hb⟩; have BR1 := (Blk.new w _ _).call hb; have HB1 := bl_trans (bl_alloc (Below.refl w.heap.size w) _) hb; have hz : w.heap.size < w1.heap.size := (by have := hb.size; simp at this; omega); clear hb)
  have BO0 := Blk.new w1 24 #[.int .i64 2, .bool false, .int .u64 0, .int .i64 0]
  have BR0 := BR1.alloc (.cells #[.int .i64 2, .bool false, .int .u64 0, .int .i64 0] 24)
  have HB0 := bl_alloc HB1 (.cells #[.int .i64 2, .bool false, .int .u64 0, .int .i64 0] 24)
  clear HB1 BR1
  generalize (w1.alloc (.cells #[.int .i64 2, .bool false, .int .u64 0, .int .i64 0] 24)) = W1 at BO0 BR0 HB0 ⊢
  generalize w1.heap.size = OB at BO0 hz ⊢
  go_loopw [4] (fun i wr => ∃ k : Nat, k ≤ n ∧ i = .int .i64 k ∧ ∃ o0 o1 o2 o3, (⟨o0, o1, o2, o3⟩ : Num) = (xs.take k).foldl leastStep (infN false) ∧ Blk wr OB 24 #[.int .i64 o0, .bool o1, .int .u64 o2, .int .i64 o3] ∧ Blk wr w.heap.size 24 #[.int .i64 0, .bool false, .int .u64 0, .int .i64 0] ∧ Below w.heap.size w wr) (fun i _ => n - (intOf i).toNat)
  case atStart => exact ⟨0, Nat.zero_le _, rfl, 2, false, 0, 0, rfl, BO0, BR0, HB0⟩
  case round =>
    obtain ⟨k, hk, rfl, o0, o1, o2, o3, ho, BO, BR, HB⟩ := hrel
    have Ho := Lib.hid ho
    clear ho BO0 BR0 HB0
    by_cases hlt : k < n
    · obtain ⟨b, off, ⟨x0, x1, x2, x3⟩, rfl, hbB, hx, e0, e1, e2, e3⟩ := (hs.below HB).at_ hlt
      have hst : (xs.take (k + 1)).foldl leastStep (infN false) = if cmpN ⟨x0, x1, x2, x3⟩ ⟨o0, o1, o2, o3⟩ < 0 then fairN ⟨x0, x1, x2, x3⟩ else ⟨o0, o1, o2, o3⟩ := by
        rw [foldl_take_succ _ _ xs k _ hx, ← Ho.out]; rfl
      have Hs := Lib.hid hst
      clear hst hx
      have hbW : b < wr.heap.size := Nat.lt_of_lt_of_le hbB HB.size
      have HC := Lib.hid (fun W => rcmpN_calls x0 x1 x2 x3 o0 o1 o2 o3 W)
      have HF := Lib.hid (fun W => rfairN_calls x0 x1 x2 x3 W)
      generalize cmpN ⟨x0, x1, x2, x3⟩ ⟨o0, o1, o2, o3⟩ = r at HC Hs
      generalize fairN ⟨x0, x1, x2, x3⟩ = f at HF Hs
      obtain ⟨f0, f1, f2, f3⟩ := f
      dsimp only at HF
      obtain ⟨⟨y0, y1, y2, y3⟩, _⟩ := BO.c4
      have hOl := BO.lt
      by_cases hr : r < 0
      · skip
        go_wp2_with fail
        replace BO := BO.drew
        replace BR := BR.drew
        replace HB := bl_drew HB
        replace e0 : wr.drew.cell? _ = _ := e0
        replace e1 : wr.drew.cell? _ = _ := e1
        replace e2 : wr.drew.cell? _ = _ := e2
        replace e3 : wr.drew.cell? _ = _ := e3
        refine start_ (n := 7) (S := fun w' => w'.cell? ⟨b, off + k * 4, none⟩ = some (.int .i64 x0) ∧ w'.cell? ⟨b, off + k * 4 + 1, none⟩ = some (.bool x1) ∧ w'.cell? ⟨b, off + k * 4 + 2, none⟩ = some (.int .u64 x2) ∧ w'.cell? ⟨b, off + k * 4 + 3, none⟩ = some (.int .i64 x3) ∧ w'.cell? ⟨OB, 0, none⟩ = some (.int .i64 o0) ∧ w'.cell? ⟨OB, 1, none⟩ = some (.bool o1) ∧ w'.cell? ⟨OB, 2, none⟩ = some (.int .u64 o2) ∧ w'.cell? ⟨OB, 3, none⟩ = some (.int .i64 o3)) (ds := []) #[false, false, false, false, false, false, false] (by kernel_rfl) rfl rfl ⟨e0, e1, e2, e3, BO.cell 0, BO.cell 1, BO.cell 2, BO.cell 3⟩ (fun hHeld => ?_)
        generalize hWW : World.drew _ = W5 at BO BR HB e0 e1 e2 e3 hHeld ⊢
        clear hWW
        refine pure_ (i := 0) (N := some 12) (v := ?_) (a' := ?_) #[true, false, false, false, false, false, false] rfl rfl (by kernel_rfl) (fun _ _ _ h => h) (Or.inl ⟨by rfl, ?_⟩) ?_ ?_
        rotate_left
        · intro w'
          go_simp
          with_reducible rfl
        rotate_left
        · simp only [Act.put, List.setIfInBounds_toArray, List.set_cons_zero, List.set_cons_succ]
          rfl
        refine pure_ (i := 1) (N := some 13) (v := ?_) (a' := ?_) #[true, true, false, false, false, false, false] rfl rfl (by kernel_rfl) (fun _ _ _ h => h) (Or.inl ⟨by rfl, ?_⟩) ?_ ?_
        rotate_left
        · intro w'
          go_simp
          with_reducible rfl
        rotate_left
        · simp only [Act.put, List.setIfInBounds_toArray, List.set_cons_zero, List.set_cons_succ]
          rfl
        refine pure_ (i := 2) (N := some 14) (v := ?_) (a' := ?_) #[true, true, true, false, false, false, false] rfl rfl (by kernel_rfl) (fun _ _ _ h => h) (Or.inl ⟨by rfl, ?_⟩) ?_ ?_
        rotate_left
        · intro w'
          go_simp
          with_reducible rfl
        rotate_left
        · simp only [Act.put, List.setIfInBounds_toArray, List.set_cons_zero, List.set_cons_succ]
          rfl
        refine take_ (i := 3) (N := some 15) (v := ?_) (a' := ?_) #[true, true, true, true, false, false, false] rfl rfl (by kernel_rfl) (fun _ _ _ h => h) (Or.inl ⟨by rfl, ?_⟩) hHeld ?_ ?_
        rotate_left
        · rintro w' ⟨s0_, s1_, s2_, s3_, s4_, s5_, s6_, s7_⟩
          go_simp
          with_reducible rfl
        rotate_left
        · simp only [Act.put, List.setIfInBounds_toArray, List.set_cons_zero, List.set_cons_succ]
          rfl
        refine take_ (i := 4) (N := some 16) (v := ?_) (a' := ?_) #[true, true, true, true, true, false, false] rfl rfl (by kernel_rfl) (fun _ _ _ h => h) (Or.inl ⟨by rfl, ?_⟩) hHeld ?_ ?_
        rotate_left
        · rintro w' ⟨s0_, s1_, s2_, s3_, s4_, s5_, s6_, s7_⟩
          go_simp
          with_reducible rfl
        rotate_left
        · simp only [Act.put, List.setIfInBounds_toArray, List.set_cons_zero, List.set_cons_succ]
          rfl
        refine one_ (i := 5) (N := some 17) #[true, true, true, true, true, true, false] rfl rfl (by kernel_rfl) (by decide) (fun K hK => ?_)
        refine goes_ Try.func76 (by kernel_rfl) rfl #[.agg #[.int .i64 x0, .bool x1, .int .u64 x2, .int .i64 x3], .agg #[.int .i64 o0, .bool o1, .int .u64 o2, .int .i64 o3]] (by rfl) rfl rfl (by simp only [List.map_toArray, List.map_cons, List.map_nil] <;> rfl) ?_
        with_reducible refine (HC.out _).mono ?_
        rintro e w2 ⟨rfl, hb⟩
        refine ⟨_, rfl, ?_⟩
        have BO := BO.call hb
        have BR := BR.call hb
        have hbW' : b < W5.heap.size := Nat.lt_of_lt_of_le hbB HB.size
        replace e0 := (hb.cell (p := ⟨b, off + k * 4, none⟩) hbW').trans e0
        replace e1 := (hb.cell (p := ⟨b, off + k * 4 + 1, none⟩) hbW').trans e1
        replace e2 := (hb.cell (p := ⟨b, off + k * 4 + 2, none⟩) hbW').trans e2
        replace e3 := (hb.cell (p := ⟨b, off + k * 4 + 3, none⟩) hbW').trans e3
        have HB := bl_trans HB hb
        refine hK.out _ _ ⟨e0, e1, e2, e3, BO.cell 0, BO.cell 1, BO.cell 2, BO.cell 3⟩ (fun hHeld => ?_)
        clear hK K hb
        refine norm_ (a' := ?_) ?_ ?_
        rotate_left
        · show Act.put _ (some 17) _ = _
          simp only [Act.put, List.setIfInBounds_toArray, List.set_cons_zero, List.set_cons_succ]
          rfl
        refine pure_ (i := 6) (N := some 18) (v := ?_) (a' := ?_) #[true, true, true, true, true, true, true] rfl rfl (by kernel_rfl) (fun _ _ _ h => h) (Or.inl ⟨by rfl, ?_⟩) ?_ ?_
        rotate_left
        · intro w'
          go_simp
          with_reducible rfl
        rotate_left
        · simp only [Act.put, List.setIfInBounds_toArray, List.set_cons_zero, List.set_cons_succ]
          rfl
        refine done_ (by kernel_rfl) ?_
        clear hHeld
        go_wp2_with (go_at_call 111; refine (HF.out _).mono ?_; rintro e w3 ⟨rfl, hb⟩; have BO3 := BO.call hb; have BR3 := BR.call hb; have HB3 := bl_trans HB hb; obtain ⟨W4, hW4, BO4, hK, hL, _⟩ := put4 BO3 (.int .i64 f0) (.bool f1) (.int .u64 f2) (.int .i64 f3); have BR4 := hK _ _ _ (Nat.ne_of_lt hz) BR3; have HB4 := hL w HB3 (Nat.le_of_lt hz); obtain ⟨⟨p0, p1, p2, p3⟩, ⟨g0, g1, g2, g3⟩⟩ := BO3.c4)
        go_roundw
        case rel => exact ⟨k + 1, by omega, by go_num, f0, f1, f2, f3, by rw [Hs.out, if_pos hr], BO4, BR4, HB4⟩
        case measure => simp [intOf]; omega
      · skip
        go_wp2_with fail
        replace BO := BO.drew
        replace BR := BR.drew
        replace HB := bl_drew HB
        replace e0 : wr.drew.cell? _ = _ := e0
        replace e1 : wr.drew.cell? _ = _ := e1
        replace e2 : wr.drew.cell? _ = _ := e2
        replace e3 : wr.drew.cell? _ = _ := e3
        refine start_ (n := 7) (S := fun w' => w'.cell? ⟨b, off + k * 4, none⟩ = some (.int .i64 x0) ∧ w'.cell? ⟨b, off + k * 4 + 1, none⟩ = some (.bool x1) ∧ w'.cell? ⟨b, off + k * 4 + 2, none⟩ = some (.int .u64 x2) ∧ w'.cell? ⟨b, off + k * 4 + 3, none⟩ = some (.int .i64 x3) ∧ w'.cell? ⟨OB, 0, none⟩ = some (.int .i64 o0) ∧ w'.cell? ⟨OB, 1, none⟩ = some (.bool o1) ∧ w'.cell? ⟨OB, 2, none⟩ = some (.int .u64 o2) ∧ w'.cell? ⟨OB, 3, none⟩ = some (.int .i64 o3)) (ds := []) #[false, false, false, false, false, false, false] (by kernel_rfl) rfl rfl ⟨e0, e1, e2, e3, BO.cell 0, BO.cell 1, BO.cell 2, BO.cell 3⟩ (fun hHeld => ?_)
        generalize hWW : World.drew _ = W5 at BO BR HB e0 e1 e2 e3 hHeld ⊢
        clear hWW
        refine pure_ (i := 0) (N := some 12) (v := ?_) (a' := ?_) #[true, false, false, false, false, false, false] rfl rfl (by kernel_rfl) (fun _ _ _ h => h) (Or.inl ⟨by rfl, ?_⟩) ?_ ?_
        rotate_left
        · intro w'
          go_simp
          with_reducible rfl
        rotate_left
        · simp only [Act.put, List.setIfInBounds_toArray, List.set_cons_zero, List.set_cons_succ]
          rfl
        refine pure_ (i := 1) (N := some 13) (v := ?_) (a' := ?_) #[true, true, false, false, false, false, false] rfl rfl (by kernel_rfl) (fun _ _ _ h => h) (Or.inl ⟨by rfl, ?_⟩) ?_ ?_
        rotate_left
        · intro w'
          go_simp
          with_reducible rfl
        rotate_left
        · simp only [Act.put, List.setIfInBounds_toArray, List.set_cons_zero, List.set_cons_succ]
          rfl
        refine pure_ (i := 2) (N := some 14) (v := ?_) (a' := ?_) #[true, true, true, false, false, false, false] rfl rfl (by kernel_rfl) (fun _ _ _ h => h) (Or.inl ⟨by rfl, ?_⟩) ?_ ?_
        rotate_left
        · intro w'
          go_simp
          with_reducible rfl
        rotate_left
        · simp only [Act.put, List.setIfInBounds_toArray, List.set_cons_zero, List.set_cons_succ]
          rfl
        refine take_ (i := 3) (N := some 15) (v := ?_) (a' := ?_) #[true, true, true, true, false, false, false] rfl rfl (by kernel_rfl) (fun _ _ _ h => h) (Or.inl ⟨by rfl, ?_⟩) hHeld ?_ ?_
        rotate_left
        · rintro w' ⟨s0_, s1_, s2_, s3_, s4_, s5_, s6_, s7_⟩
          go_simp
          with_reducible rfl
        rotate_left
        · simp only [Act.put, List.setIfInBounds_toArray, List.set_cons_zero, List.set_cons_succ]
          rfl
        refine take_ (i := 4) (N := some 16) (v := ?_) (a' := ?_) #[true, true, true, true, true, false, false] rfl rfl (by kernel_rfl) (fun _ _ _ h => h) (Or.inl ⟨by rfl, ?_⟩) hHeld ?_ ?_
        rotate_left
        · rintro w' ⟨s0_, s1_, s2_, s3_, s4_, s5_, s6_, s7_⟩
          go_simp
          with_reducible rfl
        rotate_left
        · simp only [Act.put, List.setIfInBounds_toArray, List.set_cons_zero, List.set_cons_succ]
          rfl
        refine one_ (i := 5) (N := some 17) #[true, true, true, true, true, true, false] rfl rfl (by kernel_rfl) (by decide) (fun K hK => ?_)
        refine goes_ Try.func76 (by kernel_rfl) rfl #[.agg #[.int .i64 x0, .bool x1, .int .u64 x2, .int .i64 x3], .agg #[.int .i64 o0, .bool o1, .int .u64 o2, .int .i64 o3]] (by rfl) rfl rfl (by simp only [List.map_toArray, List.map_cons, List.map_nil] <;> rfl) ?_
        with_reducible refine (HC.out _).mono ?_
        rintro e w2 ⟨rfl, hb⟩
        refine ⟨_, rfl, ?_⟩
        have BO := BO.call hb
        have BR := BR.call hb
        have hbW' : b < W5.heap.size := Nat.lt_of_lt_of_le hbB HB.size
        replace e0 := (hb.cell (p := ⟨b, off + k * 4, none⟩) hbW').trans e0
        replace e1 := (hb.cell (p := ⟨b, off + k * 4 + 1, none⟩) hbW').trans e1
        replace e2 := (hb.cell (p := ⟨b, off + k * 4 + 2, none⟩) hbW').trans e2
        replace e3 := (hb.cell (p := ⟨b, off + k * 4 + 3, none⟩) hbW').trans e3
        have HB := bl_trans HB hb
        refine hK.out _ _ ⟨e0, e1, e2, e3, BO.cell 0, BO.cell 1, BO.cell 2, BO.cell 3⟩ (fun hHeld => ?_)
        clear hK K hb
        refine norm_ (a' := ?_) ?_ ?_
        rotate_left
        · show Act.put _ (some 17) _ = _
          simp only [Act.put, List.setIfInBounds_toArray, List.set_cons_zero, List.set_cons_succ]
          rfl
        refine pure_ (i := 6) (N := some 18) (v := ?_) (a' := ?_) #[true, true, true, true, true, true, true] rfl rfl (by kernel_rfl) (fun _ _ _ h => h) (Or.inl ⟨by rfl, ?_⟩) ?_ ?_
        rotate_left
        · intro w'
          go_simp
          with_reducible rfl
        rotate_left
        · simp only [Act.put, List.setIfInBounds_toArray, List.set_cons_zero, List.set_cons_succ]
          rfl
        refine done_ (by kernel_rfl) ?_
        clear hHeld
        go_wp2
        go_roundw
        case rel => exact ⟨k + 1, by omega, by go_num, o0, o1, o2, o3, by rw [Hs.out, if_neg (by omega)], BO, BR, HB⟩
        case measure => simp [intOf]; omega
    · have hkn : k = n := by omega
      have Hf : Hid ((⟨o0, o1, o2, o3⟩ : Num) = leastN xs) := by
        have h1 := Ho.out
        rw [List.take_of_length_le (by have := hs.1; omega)] at h1
        exact h1
      clear Ho hkn
      have hlt' : n ≤ k := by omega
      obtain ⟨W4, hW4, BR4, _, hL, _⟩ := put4 BR (.int .i64 o0) (.bool o1) (.int .u64 o2) (.int .i64 o3)
      have HB4 := hL w HB (Nat.le_refl _)
      obtain ⟨⟨q0, q1, q2, q3⟩, _⟩ := BO.c4
      obtain ⟨⟨p0, p1, p2, p3⟩, ⟨g0, g1, g2, g3⟩⟩ := BR.c4
      go_wp2
      refine bodyPost_ret (results_cell_row rfl _ _ w.heap.size 24 #[.int .i64 o0, .bool o1, .int .u64 o2, .int .i64 o3] (0, 0) _ rfl BR4 Try.underlying24 rfl (by kernel_rfl)) rfl ⟨?_, HB4⟩
      rw [← Hf.out]

end Go.Proofs.Ytagojbgmgkkdpaa.Wk


/- Walks: the reference's Two and Both of intervals. -/
namespace Go.Proofs.Ytagojbgmgkkdpaa.Wk
open Go.RowKit Go.Proofs.Pl Go.Proofs.YtagojbgmgkkdpaaW.PrintLast
set_option linter.unusedSimpArgs false
set_option linter.unusedVariables false

theorem SlN.lit2 {w : World} {g B : Nat} {T : TypeId} {x y : Num} (h : Blk w g T #[.int .i64 x.k, .bool x.n, .int .u64 x.m, .int .i64 x.e, .int .i64 y.k, .bool y.n, .int .u64 y.m, .int .i64 y.e]) (hB : g < B) :
    SlN w B (some ⟨g, 0, none⟩) 2 [x, y] := by
  refine ⟨rfl, fun _ => ⟨g, 0, rfl, hB, fun i z hz => ?_⟩⟩
  match i, hz with
  | 0, hz =>
    simp only [List.getElem?_cons_zero, Option.some.injEq] at hz
    subst hz
    exact ⟨h.cell 0, h.cell 1, h.cell 2, h.cell 3⟩
  | 1, hz =>
    simp only [List.getElem?_cons_succ, List.getElem?_cons_zero, Option.some.injEq] at hz
    subst hz
    exact ⟨h.cell 4, h.cell 5, h.cell 6, h.cell 7⟩
  | i + 2, hz => simp at hz

set_option maxRecDepth 100000 in
set_option maxHeartbeats 8000000 in
theorem r8two_calls (a0 : Bool) (a1 : Int) (a2 : Bool) (a3 a4 a5 : Int) (a6 : Bool) (a7 a8 : Int) (b0 : Bool) (b1 : Int) (b2 : Bool) (b3 b4 b5 : Int) (b6 : Bool) (b7 b8 : Int) (w : World) :
    Calls Try.prog 80 #[.agg #[.bool a0, .int .i64 a1, .bool a2, .int .u64 a3, .int .i64 a4, .int .i64 a5, .bool a6, .int .u64 a7, .int .i64 a8], .agg #[.bool b0, .int .i64 b1, .bool b2, .int .u64 b3, .int .i64 b4, .int .i64 b5, .bool b6, .int .u64 b7, .int .i64 b8]] w fun e w' => e = .returned (.agg #[.bool (twoI ⟨a0, ⟨a1, a2, a3, a4⟩, ⟨a5, a6, a7, a8⟩⟩ ⟨b0, ⟨b1, b2, b3, b4⟩, ⟨b5, b6, b7, b8⟩⟩).emp, .int .i64 ((twoI ⟨a0, ⟨a1, a2, a3, a4⟩, ⟨a5, a6, a7, a8⟩⟩ ⟨b0, ⟨b1, b2, b3, b4⟩, ⟨b5, b6, b7, b8⟩⟩).lo).k, .bool ((twoI ⟨a0, ⟨a1, a2, a3, a4⟩, ⟨a5, a6, a7, a8⟩⟩ ⟨b0, ⟨b1, b2, b3, b4⟩, ⟨b5, b6, b7, b8⟩⟩).lo).n, .int .u64 ((twoI ⟨a0, ⟨a1, a2, a3, a4⟩, ⟨a5, a6, a7, a8⟩⟩ ⟨b0, ⟨b1, b2, b3, b4⟩, ⟨b5, b6, b7, b8⟩⟩).lo).m, .int .i64 ((twoI ⟨a0, ⟨a1, a2, a3, a4⟩, ⟨a5, a6, a7, a8⟩⟩ ⟨b0, ⟨b1, b2, b3, b4⟩, ⟨b5, b6, b7, b8⟩⟩).lo).e, .int .i64 ((twoI ⟨a0, ⟨a1, a2, a3, a4⟩, ⟨a5, a6, a7, a8⟩⟩ ⟨b0, ⟨b1, b2, b3, b4⟩, ⟨b5, b6, b7, b8⟩⟩).hi).k, .bool ((twoI ⟨a0, ⟨a1, a2, a3, a4⟩, ⟨a5, a6, a7, a8⟩⟩ ⟨b0, ⟨b1, b2, b3, b4⟩, ⟨b5, b6, b7, b8⟩⟩).hi).n, .int .u64 ((twoI ⟨a0, ⟨a1, a2, a3, a4⟩, ⟨a5, a6, a7, a8⟩⟩ ⟨b0, ⟨b1, b2, b3, b4⟩, ⟨b5, b6, b7, b8⟩⟩).hi).m, .int .i64 ((twoI ⟨a0, ⟨a1, a2, a3, a4⟩, ⟨a5, a6, a7, a8⟩⟩ ⟨b0, ⟨b1, b2, b3, b4⟩, ⟨b5, b6, b7, b8⟩⟩).hi).e]) ∧ Below w.heap.size w w' := by
  unfold twoI
  have HF := Lib.hid (fun W => r8fair_calls a0 a1 a2 a3 a4 a5 a6 a7 a8 W)
  have HG := Lib.hid (fun W => r8fair_calls b0 b1 b2 b3 b4 b5 b6 b7 b8 W)
  generalize fairI ⟨a0, ⟨a1, a2, a3, a4⟩, ⟨a5, a6, a7, a8⟩⟩ = c at HF ⊢
  generalize fairI ⟨b0, ⟨b1, b2, b3, b4⟩, ⟨b5, b6, b7, b8⟩⟩ = d at HG ⊢
  obtain ⟨c0, ⟨c1, c2, c3, c4⟩, ⟨c5, c6, c7, c8⟩⟩ := c
  obtain ⟨d0, ⟨d1, d2, d3, d4⟩, ⟨d5, d6, d7, d8⟩⟩ := d
  dsimp only at HF HG ⊢
  have HMo := Lib.hid (fun A W (h : SlN W W.heap.size A 2 [⟨c1, c2, c3, c4⟩, ⟨d1, d2, d3, d4⟩]) => rmostN_calls A 2 2 _ W h (by omega))
  have HLe := Lib.hid (fun A W (h : SlN W W.heap.size A 2 [⟨c5, c6, c7, c8⟩, ⟨d5, d6, d7, d8⟩]) => rleastN_calls A 2 2 _ W h (by omega))
  generalize mostN [⟨c1, c2, c3, c4⟩, ⟨d1, d2, d3, d4⟩] = m at HMo ⊢
  generalize leastN [⟨c5, c6, c7, c8⟩, ⟨d5, d6, d7, d8⟩] = n at HLe ⊢
  obtain ⟨m0, m1, m2, m3⟩ := m
  obtain ⟨n0, n1, n2, n3⟩ := n
  have HMk := Lib.hid (fun W => r8make_calls m0 m1 m2 m3 n0 n1 n2 n3 W)
  generalize makeI ⟨m0, m1, m2, m3⟩ ⟨n0, n1, n2, n3⟩ = r at HMk ⊢
  obtain ⟨r0, ⟨r1, r2, r3, r4⟩, ⟨r5, r6, r7, r8⟩⟩ := r
  dsimp only at HMo HLe HMk ⊢
  have BB := (Blk.new1 w (.cells #[.bool a0, .int .i64 a1, .bool a2, .int .u64 a3, .int .i64 a4, .int .i64 a5, .bool a6, .int .u64 a7, .int .i64 a8] 26) 26 #[.bool b0, .int .i64 b1, .bool b2, .int .u64 b3, .int .i64 b4, .int .i64 b5, .bool b6, .int .u64 b7, .int .i64 b8]).alloc (.cells #[.bool false, .int .i64 0, .bool false, .int .u64 0, .int .i64 0, .int .i64 0, .bool false, .int .u64 0, .int .i64 0] 26)
  have BR0 := (Blk.new2 w (.cells #[.bool a0, .int .i64 a1, .bool a2, .int .u64 a3, .int .i64 a4, .int .i64 a5, .bool a6, .int .u64 a7, .int .i64 a8] 26) (.cells #[.bool b0, .int .i64 b1, .bool b2, .int .u64 b3, .int .i64 b4, .int .i64 b5, .bool b6, .int .u64 b7, .int .i64 b8] 26) 26 #[.bool false, .int .i64 0, .bool false, .int .u64 0, .int .i64 0, .int .i64 0, .bool false, .int .u64 0, .int .i64 0])
  have BR : Blk _ (w.heap.size + 1 + 1) _ _ := BR0
  clear BR0
  have HB := bl_alloc (bl_alloc (bl_alloc (Below.refl w.heap.size w) (.cells #[.bool a0, .int .i64 a1, .bool a2, .int .u64 a3, .int .i64 a4, .int .i64 a5, .bool a6, .int .u64 a7, .int .i64 a8] 26)) (.cells #[.bool b0, .int .i64 b1, .bool b2, .int .u64 b3, .int .i64 b4, .int .i64 b5, .bool b6, .int .u64 b7, .int .i64 b8] 26)) (.cells #[.bool false, .int .i64 0, .bool false, .int .u64 0, .int .i64 0, .int .i64 0, .bool false, .int .u64 0, .int .i64 0] 26)
  go_enter Try.func80, Try.ntmps80
  go_wp2_with fail
  refine (HF.out _).mono ?_
  rintro e w1 ⟨rfl, hb⟩
  have BB := (BB.call hb).alloc (.cells #[.bool c0, .int .i64 c1, .bool c2, .int .u64 c3, .int .i64 c4, .int .i64 c5, .bool c6, .int .u64 c7, .int .i64 c8] 26)
  have BR := (BR.call hb).alloc (.cells #[.bool c0, .int .i64 c1, .bool c2, .int .u64 c3, .int .i64 c4, .int .i64 c5, .bool c6, .int .u64 c7, .int .i64 c8] 26)
  have HB := bl_alloc (bl_trans HB hb) (.cells #[.bool c0, .int .i64 c1, .bool c2, .int .u64 c3, .int .i64 c4, .int .i64 c5, .bool c6, .int .u64 c7, .int .i64 c8] 26)
  have BC := Blk.new w1 26 #[.bool c0, .int .i64 c1, .bool c2, .int .u64 c3, .int .i64 c4, .int .i64 c5, .bool c6, .int .u64 c7, .int .i64 c8]
  clear hb
  obtain ⟨⟨p0, p1, p2, p3, p4, p5, p6, p7, p8⟩, _⟩ := BB.c9
  go_wp2_with fail
  refine (HG.out _).mono ?_
  rintro e w2 ⟨rfl, hb⟩
  clear p0 p1 p2 p3 p4 p5 p6 p7 p8
  have HB4 := bl_alloc (bl_trans HB hb) (.cells #[.bool d0, .int .i64 d1, .bool d2, .int .u64 d3, .int .i64 d4, .int .i64 d5, .bool d6, .int .u64 d7, .int .i64 d8] 26)
  have BX4 := (BC.call hb).alloc (.cells #[.bool d0, .int .i64 d1, .bool d2, .int .u64 d3, .int .i64 d4, .int .i64 d5, .bool d6, .int .u64 d7, .int .i64 d8] 26)
  have BR4 := (BR.call hb).alloc (.cells #[.bool d0, .int .i64 d1, .bool d2, .int .u64 d3, .int .i64 d4, .int .i64 d5, .bool d6, .int .u64 d7, .int .i64 d8] 26)
  have BY4 := Blk.new w2 26 #[.bool d0, .int .i64 d1, .bool d2, .int .u64 d3, .int .i64 d4, .int .i64 d5, .bool d6, .int .u64 d7, .int .i64 d8]
  clear hb BB BC BR HB HF HG
  cases c0
  · cases d0
    · skip
      obtain ⟨⟨p0, p1, p2, p3, p4, p5, p6, p7, p8⟩, _⟩ := BX4.c9
      obtain ⟨⟨r0', r1', r2', r3', r4', r5', r6', r7', r8'⟩, _⟩ := BY4.c9
      go_wp2_with fail
      replace BX4 := BX4.drew
      replace BY4 := BY4.drew
      replace BR4 := BR4.drew
      replace HB4 := bl_drew HB4
      clear p0 p1 p2 p3 p4 p5 p6 p7 p8 r0' r1' r2' r3' r4' r5' r6' r7' r8'
      refine start_ (n := 14) (S := fun w' => w'.cell? ⟨w1.heap.size, 0, none⟩ = some (.bool false) ∧ w'.cell? ⟨w1.heap.size, 1, none⟩ = some (.int .i64 c1) ∧ w'.cell? ⟨w1.heap.size, 2, none⟩ = some (.bool c2) ∧ w'.cell? ⟨w1.heap.size, 3, none⟩ = some (.int .u64 c3) ∧ w'.cell? ⟨w1.heap.size, 4, none⟩ = some (.int .i64 c4) ∧ w'.cell? ⟨w1.heap.size, 5, none⟩ = some (.int .i64 c5) ∧ w'.cell? ⟨w1.heap.size, 6, none⟩ = some (.bool c6) ∧ w'.cell? ⟨w1.heap.size, 7, none⟩ = some (.int .u64 c7) ∧ w'.cell? ⟨w1.heap.size, 8, none⟩ = some (.int .i64 c8) ∧ w'.cell? ⟨w2.heap.size, 0, none⟩ = some (.bool false) ∧ w'.cell? ⟨w2.heap.size, 1, none⟩ = some (.int .i64 d1) ∧ w'.cell? ⟨w2.heap.size, 2, none⟩ = some (.bool d2) ∧ w'.cell? ⟨w2.heap.size, 3, none⟩ = some (.int .u64 d3) ∧ w'.cell? ⟨w2.heap.size, 4, none⟩ = some (.int .i64 d4) ∧ w'.cell? ⟨w2.heap.size, 5, none⟩ = some (.int .i64 d5) ∧ w'.cell? ⟨w2.heap.size, 6, none⟩ = some (.bool d6) ∧ w'.cell? ⟨w2.heap.size, 7, none⟩ = some (.int .u64 d7) ∧ w'.cell? ⟨w2.heap.size, 8, none⟩ = some (.int .i64 d8)) (ds := [13]) #[false, false, false, false, false, false, false, false, false, false, false, false, false, false] (by kernel_rfl) rfl rfl ⟨BX4.cell 0, BX4.cell 1, BX4.cell 2, BX4.cell 3, BX4.cell 4, BX4.cell 5, BX4.cell 6, BX4.cell 7, BX4.cell 8, BY4.cell 0, BY4.cell 1, BY4.cell 2, BY4.cell 3, BY4.cell 4, BY4.cell 5, BY4.cell 6, BY4.cell 7, BY4.cell 8⟩ (fun hHeld => ?_)
      generalize hWW : World.drew _ = w3 at BX4 BY4 BR4 HB4 hHeld ⊢
      clear hWW
      refine pure_ (i := 0) (N := some 18) (v := ?_) (a' := ?_) #[true, false, false, false, false, false, false, false, false, false, false, false, false, false] rfl rfl (by kernel_rfl) (fun _ _ _ h => h) (Or.inl ⟨by rfl, ?_⟩) ?_ ?_
      rotate_left
      · intro w'
        go_simp
        with_reducible rfl
      rotate_left
      · simp only [Act.put, List.setIfInBounds_toArray, List.set_cons_zero, List.set_cons_succ]
        rfl
      refine take_ (i := 1) (N := some 19) (v := ?_) (a' := ?_) #[true, true, false, false, false, false, false, false, false, false, false, false, false, false] rfl rfl (by kernel_rfl) (fun _ _ _ h => h) (Or.inl ⟨by rfl, ?_⟩) hHeld ?_ ?_
      rotate_left
      · rintro w' ⟨s0_, s1_, s2_, s3_, s4_, s5_, s6_, s7_, s8_, s9_, s10_, s11_, s12_, s13_, s14_, s15_, s16_, s17_⟩
        go_simp
        with_reducible rfl
      rotate_left
      · simp only [Act.put, List.setIfInBounds_toArray, List.set_cons_zero, List.set_cons_succ]
        rfl
      refine pure_ (i := 2) (N := some 20) (v := ?_) (a' := ?_) #[true, true, true, false, false, false, false, false, false, false, false, false, false, false] rfl rfl (by kernel_rfl) (fun _ _ _ h => h) (Or.inl ⟨by rfl, ?_⟩) ?_ ?_
      rotate_left
      · intro w'
        go_simp
        with_reducible rfl
      rotate_left
      · simp only [Act.put, List.setIfInBounds_toArray, List.set_cons_zero, List.set_cons_succ]
        rfl
      refine take_ (i := 3) (N := some 21) (v := ?_) (a' := ?_) #[true, true, true, true, false, false, false, false, false, false, false, false, false, false] rfl rfl (by kernel_rfl) (fun _ _ _ h => h) (Or.inl ⟨by rfl, ?_⟩) hHeld ?_ ?_
      rotate_left
      · rintro w' ⟨s0_, s1_, s2_, s3_, s4_, s5_, s6_, s7_, s8_, s9_, s10_, s11_, s12_, s13_, s14_, s15_, s16_, s17_⟩
        go_simp
        with_reducible rfl
      rotate_left
      · simp only [Act.put, List.setIfInBounds_toArray, List.set_cons_zero, List.set_cons_succ]
        rfl
      refine pure_ (i := 6) (N := some 24) (v := ?_) (a' := ?_) #[true, true, true, true, false, false, true, false, false, false, false, false, false, false] rfl rfl (by kernel_rfl) (fun _ _ _ h => h) (Or.inl ⟨by rfl, ?_⟩) ?_ ?_
      rotate_left
      · intro w'
        go_simp
        with_reducible rfl
      rotate_left
      · simp only [Act.put, List.setIfInBounds_toArray, List.set_cons_zero, List.set_cons_succ]
        rfl
      refine take_ (i := 7) (N := some 25) (v := ?_) (a' := ?_) #[true, true, true, true, false, false, true, true, false, false, false, false, false, false] rfl rfl (by kernel_rfl) (fun _ _ _ h => h) (Or.inl ⟨by rfl, ?_⟩) hHeld ?_ ?_
      rotate_left
      · rintro w' ⟨s0_, s1_, s2_, s3_, s4_, s5_, s6_, s7_, s8_, s9_, s10_, s11_, s12_, s13_, s14_, s15_, s16_, s17_⟩
        go_simp
        with_reducible rfl
      rotate_left
      · simp only [Act.put, List.setIfInBounds_toArray, List.set_cons_zero, List.set_cons_succ]
        rfl
      refine pure_ (i := 8) (N := some 26) (v := ?_) (a' := ?_) #[true, true, true, true, false, false, true, true, true, false, false, false, false, false] rfl rfl (by kernel_rfl) (fun _ _ _ h => h) (Or.inl ⟨by rfl, ?_⟩) ?_ ?_
      rotate_left
      · intro w'
        go_simp
        with_reducible rfl
      rotate_left
      · simp only [Act.put, List.setIfInBounds_toArray, List.set_cons_zero, List.set_cons_succ]
        rfl
      refine take_ (i := 9) (N := some 27) (v := ?_) (a' := ?_) #[true, true, true, true, false, false, true, true, true, true, false, false, false, false] rfl rfl (by kernel_rfl) (fun _ _ _ h => h) (Or.inl ⟨by rfl, ?_⟩) hHeld ?_ ?_
      rotate_left
      · rintro w' ⟨s0_, s1_, s2_, s3_, s4_, s5_, s6_, s7_, s8_, s9_, s10_, s11_, s12_, s13_, s14_, s15_, s16_, s17_⟩
        go_simp
        with_reducible rfl
      rotate_left
      · simp only [Act.put, List.setIfInBounds_toArray, List.set_cons_zero, List.set_cons_succ]
        rfl
      refine join_ (σ := Nat × Nat) 3 #[true, true, true, true, true, true, true, true, true, true, true, false, false, false] (fun s => [(22, .slice (some ⟨s.1, 0, none⟩) 2 2), (23, .agg #[.int .i64 m0, .bool m1, .int .u64 m2, .int .i64 m3]), (28, .slice (some ⟨s.2, 0, none⟩) 2 2)]) (fun s w' => Blk w' w1.heap.size 26 #[.bool false, .int .i64 c1, .bool c2, .int .u64 c3, .int .i64 c4, .int .i64 c5, .bool c6, .int .u64 c7, .int .i64 c8] ∧ Blk w' w2.heap.size 26 #[.bool false, .int .i64 d1, .bool d2, .int .u64 d3, .int .i64 d4, .int .i64 d5, .bool d6, .int .u64 d7, .int .i64 d8] ∧ Blk w' (w.heap.size + 1 + 1) 26 #[.bool false, .int .i64 0, .bool false, .int .u64 0, .int .i64 0, .int .i64 0, .bool false, .int .u64 0, .int .i64 0] ∧ Below w.heap.size w w' ∧ SlN w' w'.heap.size (some ⟨s.2, 0, none⟩) 2 [⟨c5, c6, c7, c8⟩, ⟨d5, d6, d7, d8⟩]) ?_ (fun hJ => ?_)
      · skip
        rintro ⟨s1, s2⟩ w6 ⟨BX4, BY4, BR4, HB4, HS⟩
        clear hHeld
        refine norm_ (a' := ?_) ?_ ?_
        rotate_left
        · simp only [putAll, Act.put, List.setIfInBounds_toArray, List.set_cons_zero, List.set_cons_succ]
          rfl
        refine one_ (i := 11) (N := some 29) #[true, true, true, true, true, true, true, true, true, true, true, true, false, false] rfl rfl (by kernel_rfl) (by decide) (fun K hK => ?_)
        refine goes_ Try.func115 (by kernel_rfl) rfl #[.slice (some ⟨s2, 0, none⟩) 2 2] (by rfl) rfl rfl (by simp only [List.map_toArray, List.map_cons, List.map_nil] <;> rfl) ?_
        with_reducible refine (HLe.out _ _ HS).mono ?_
        rintro e w7 ⟨rfl, hb⟩
        refine ⟨_, rfl, ?_⟩
        have BX4 := BX4.call hb
        have BY4 := BY4.call hb
        have BR4 := BR4.call hb
        have HB4 := bl_trans HB4 hb
        refine hK.out _ _ ⟨BX4.cell 0, BX4.cell 1, BX4.cell 2, BX4.cell 3, BX4.cell 4, BX4.cell 5, BX4.cell 6, BX4.cell 7, BX4.cell 8, BY4.cell 0, BY4.cell 1, BY4.cell 2, BY4.cell 3, BY4.cell 4, BY4.cell 5, BY4.cell 6, BY4.cell 7, BY4.cell 8⟩ (fun hHeld => ?_)
        clear hK K hb
        refine norm_ (a' := ?_) ?_ ?_
        rotate_left
        · show Act.put _ (some 29) _ = _
          simp only [Act.put, List.setIfInBounds_toArray, List.set_cons_zero, List.set_cons_succ]
          rfl
        refine one_ (i := 12) (N := some 30) #[true, true, true, true, true, true, true, true, true, true, true, true, true, false] rfl rfl (by kernel_rfl) (by decide) (fun K hK => ?_)
        refine goes_ Try.func72 (by kernel_rfl) rfl #[.agg #[.int .i64 m0, .bool m1, .int .u64 m2, .int .i64 m3], .agg #[.int .i64 n0, .bool n1, .int .u64 n2, .int .i64 n3]] (by rfl) rfl rfl (by simp only [List.map_toArray, List.map_cons, List.map_nil] <;> rfl) ?_
        with_reducible refine (HMk.out _).mono ?_
        rintro e w8 ⟨rfl, hb⟩
        refine ⟨_, rfl, ?_⟩
        have BX4 := BX4.call hb
        have BY4 := BY4.call hb
        have BR4 := BR4.call hb
        have HB4 := bl_trans HB4 hb
        refine hK.out _ _ ⟨BX4.cell 0, BX4.cell 1, BX4.cell 2, BX4.cell 3, BX4.cell 4, BX4.cell 5, BX4.cell 6, BX4.cell 7, BX4.cell 8, BY4.cell 0, BY4.cell 1, BY4.cell 2, BY4.cell 3, BY4.cell 4, BY4.cell 5, BY4.cell 6, BY4.cell 7, BY4.cell 8⟩ (fun hHeld => ?_)
        clear hK K hb
        refine norm_ (a' := ?_) ?_ ?_
        rotate_left
        · show Act.put _ (some 30) _ = _
          simp only [Act.put, List.setIfInBounds_toArray, List.set_cons_zero, List.set_cons_succ]
          rfl
        obtain ⟨⟨q0, q1, q2, q3, q4, q5, q6, q7, q8⟩, ⟨f0, f1, f2, f3, f4, f5, f6, f7, f8⟩⟩ := BR4.c9
        obtain ⟨W9, hW9, B9, _, hL9, _⟩ := put9 BR4 (.bool r0) (.int .i64 r1) (.bool r2) (.int .u64 r3) (.int .i64 r4) (.int .i64 r5) (.bool r6) (.int .u64 r7) (.int .i64 r8)
        have HB9 := hL9 w HB4 (by omega)
        refine last_ (i := 13) (N := none) #[true, true, true, true, true, true, true, true, true, true, true, true, true, true] rfl rfl (by kernel_rfl) (by decide) (fun K hK => ?_)
        refine skip_ (w1 := ?_) (by rfl) rfl ?_ ?_
        rotate_left
        · go_simp
          rfl
        refine hK.out _ _ ?_
        clear hK K
        refine done_ (by kernel_rfl) ?_
        clear hHeld BX4 BY4 BR4 HB4
        go_wp2
        exact bodyPost_ret (results_cell_row rfl _ _ (w.heap.size + 1 + 1) 26 #[.bool r0, .int .i64 r1, .bool r2, .int .u64 r3, .int .i64 r4, .int .i64 r5, .bool r6, .int .u64 r7, .int .i64 r8] (0, 0) _ rfl B9 Try.underlying26 rfl (by kernel_rfl)) rfl ⟨rfl, HB9⟩
      · skip
        refine two_ (i := 4) (j := 10) (Ni := some 22) (Nj := some 28) #[true, true, true, true, true, false, true, true, true, true, false, false, false, false] #[true, true, true, true, false, false, true, true, true, true, true, false, false, false] rfl rfl rfl rfl (by kernel_rfl) (by decide) (by decide) (fun K hK => ?_) (fun K hK => ?_)
        · skip
          refine value_ (v := ?_) (w1 := ?_) (by rfl) rfl ?_ ?_
          rotate_left 2
          · go_simp
            first | rfl | (constructor <;> rfl)
          have BL := Blk.new w3 24 #[.int .i64 c1, .bool c2, .int .u64 c3, .int .i64 c4, .int .i64 d1, .bool d2, .int .u64 d3, .int .i64 d4]
          have BX4 := BX4.alloc (.cells #[.int .i64 c1, .bool c2, .int .u64 c3, .int .i64 c4, .int .i64 d1, .bool d2, .int .u64 d3, .int .i64 d4] 24)
          have BY4 := BY4.alloc (.cells #[.int .i64 c1, .bool c2, .int .u64 c3, .int .i64 c4, .int .i64 d1, .bool d2, .int .u64 d3, .int .i64 d4] 24)
          have BR4 := BR4.alloc (.cells #[.int .i64 c1, .bool c2, .int .u64 c3, .int .i64 c4, .int .i64 d1, .bool d2, .int .u64 d3, .int .i64 d4] 24)
          have HB4 := bl_alloc HB4 (.cells #[.int .i64 c1, .bool c2, .int .u64 c3, .int .i64 c4, .int .i64 d1, .bool d2, .int .u64 d3, .int .i64 d4] 24)
          refine hK.out _ _ ⟨BX4.cell 0, BX4.cell 1, BX4.cell 2, BX4.cell 3, BX4.cell 4, BX4.cell 5, BX4.cell 6, BX4.cell 7, BX4.cell 8, BY4.cell 0, BY4.cell 1, BY4.cell 2, BY4.cell 3, BY4.cell 4, BY4.cell 5, BY4.cell 6, BY4.cell 7, BY4.cell 8⟩ (fun hHeld => ?_)
          clear hK K
          refine norm_ (a' := ?_) ?_ ?_
          rotate_left
          · show Act.put _ (some 22) _ = _
            simp only [Act.put, List.setIfInBounds_toArray, List.set_cons_zero, List.set_cons_succ]
            rfl
          refine two_ (i := 5) (j := 10) (Ni := some 23) (Nj := some 28) #[true, true, true, true, true, true, true, true, true, true, false, false, false, false] #[true, true, true, true, true, false, true, true, true, true, true, false, false, false] rfl rfl rfl rfl (by kernel_rfl) (by decide) (by decide) (fun K hK => ?_) (fun K hK => ?_)
          · skip
            refine goes_ Try.func114 (by kernel_rfl) rfl #[.slice (some ⟨w3.heap.size, 0, none⟩) 2 2] (by rfl) rfl rfl (by simp only [List.map_toArray, List.map_cons, List.map_nil] <;> rfl) ?_
            with_reducible refine (HMo.out _ _ (SlN.lit2 (x := ⟨c1, c2, c3, c4⟩) (y := ⟨d1, d2, d3, d4⟩) BL BL.lt)).mono ?_
            rintro e w4 ⟨rfl, hb⟩
            refine ⟨_, rfl, ?_⟩
            have BX4 := BX4.call hb
            have BY4 := BY4.call hb
            have BR4 := BR4.call hb
            have HB4 := bl_trans HB4 hb
            refine hK.out _ _ ⟨BX4.cell 0, BX4.cell 1, BX4.cell 2, BX4.cell 3, BX4.cell 4, BX4.cell 5, BX4.cell 6, BX4.cell 7, BX4.cell 8, BY4.cell 0, BY4.cell 1, BY4.cell 2, BY4.cell 3, BY4.cell 4, BY4.cell 5, BY4.cell 6, BY4.cell 7, BY4.cell 8⟩ (fun hHeld => ?_)
            clear hK K hb
            refine norm_ (a' := ?_) ?_ ?_
            rotate_left
            · show Act.put _ (some 23) _ = _
              simp only [Act.put, List.setIfInBounds_toArray, List.set_cons_zero, List.set_cons_succ]
              rfl
            refine one_ (i := 10) (N := some 28) #[true, true, true, true, true, true, true, true, true, true, true, false, false, false] rfl rfl (by kernel_rfl) (by decide) (fun K hK => ?_)
            refine value_ (v := ?_) (w1 := ?_) (by rfl) rfl ?_ ?_
            rotate_left 2
            · go_simp
              first | rfl | (constructor <;> rfl)
            have BL2 := Blk.new w4 24 #[.int .i64 c5, .bool c6, .int .u64 c7, .int .i64 c8, .int .i64 d5, .bool d6, .int .u64 d7, .int .i64 d8]
            have BX4 := BX4.alloc (.cells #[.int .i64 c5, .bool c6, .int .u64 c7, .int .i64 c8, .int .i64 d5, .bool d6, .int .u64 d7, .int .i64 d8] 24)
            have BY4 := BY4.alloc (.cells #[.int .i64 c5, .bool c6, .int .u64 c7, .int .i64 c8, .int .i64 d5, .bool d6, .int .u64 d7, .int .i64 d8] 24)
            have BR4 := BR4.alloc (.cells #[.int .i64 c5, .bool c6, .int .u64 c7, .int .i64 c8, .int .i64 d5, .bool d6, .int .u64 d7, .int .i64 d8] 24)
            have HB4 := bl_alloc HB4 (.cells #[.int .i64 c5, .bool c6, .int .u64 c7, .int .i64 c8, .int .i64 d5, .bool d6, .int .u64 d7, .int .i64 d8] 24)
            refine hK.out _ _ ⟨BX4.cell 0, BX4.cell 1, BX4.cell 2, BX4.cell 3, BX4.cell 4, BX4.cell 5, BX4.cell 6, BX4.cell 7, BX4.cell 8, BY4.cell 0, BY4.cell 1, BY4.cell 2, BY4.cell 3, BY4.cell 4, BY4.cell 5, BY4.cell 6, BY4.cell 7, BY4.cell 8⟩ (fun hHeld => ?_)
            exact norm_ (by rfl) (hJ (w3.heap.size, w4.heap.size) _ ⟨BX4, BY4, BR4, HB4, (SlN.lit2 (x := ⟨c5, c6, c7, c8⟩) (y := ⟨d5, d6, d7, d8⟩) BL2 BL2.lt)⟩)
          · skip
            refine value_ (v := ?_) (w1 := ?_) (by rfl) rfl ?_ ?_
            rotate_left 2
            · go_simp
              first | rfl | (constructor <;> rfl)
            have BL2 := Blk.new1 w3 (.cells #[.int .i64 c1, .bool c2, .int .u64 c3, .int .i64 c4, .int .i64 d1, .bool d2, .int .u64 d3, .int .i64 d4] 24) 24 #[.int .i64 c5, .bool c6, .int .u64 c7, .int .i64 c8, .int .i64 d5, .bool d6, .int .u64 d7, .int .i64 d8]
            have BL := BL.alloc (.cells #[.int .i64 c5, .bool c6, .int .u64 c7, .int .i64 c8, .int .i64 d5, .bool d6, .int .u64 d7, .int .i64 d8] 24)
            have BX4 := BX4.alloc (.cells #[.int .i64 c5, .bool c6, .int .u64 c7, .int .i64 c8, .int .i64 d5, .bool d6, .int .u64 d7, .int .i64 d8] 24)
            have BY4 := BY4.alloc (.cells #[.int .i64 c5, .bool c6, .int .u64 c7, .int .i64 c8, .int .i64 d5, .bool d6, .int .u64 d7, .int .i64 d8] 24)
            have BR4 := BR4.alloc (.cells #[.int .i64 c5, .bool c6, .int .u64 c7, .int .i64 c8, .int .i64 d5, .bool d6, .int .u64 d7, .int .i64 d8] 24)
            have HB4 := bl_alloc HB4 (.cells #[.int .i64 c5, .bool c6, .int .u64 c7, .int .i64 c8, .int .i64 d5, .bool d6, .int .u64 d7, .int .i64 d8] 24)
            refine hK.out _ _ ⟨BX4.cell 0, BX4.cell 1, BX4.cell 2, BX4.cell 3, BX4.cell 4, BX4.cell 5, BX4.cell 6, BX4.cell 7, BX4.cell 8, BY4.cell 0, BY4.cell 1, BY4.cell 2, BY4.cell 3, BY4.cell 4, BY4.cell 5, BY4.cell 6, BY4.cell 7, BY4.cell 8⟩ (fun hHeld => ?_)
            clear hK K
            refine norm_ (a' := ?_) ?_ ?_
            rotate_left
            · show Act.put _ (some 28) _ = _
              simp only [Act.put, List.setIfInBounds_toArray, List.set_cons_zero, List.set_cons_succ]
              rfl
            refine one_ (i := 5) (N := some 23) #[true, true, true, true, true, true, true, true, true, true, true, false, false, false] rfl rfl (by kernel_rfl) (by decide) (fun K hK => ?_)
            refine goes_ Try.func114 (by kernel_rfl) rfl #[.slice (some ⟨w3.heap.size, 0, none⟩) 2 2] (by rfl) rfl rfl (by simp only [List.map_toArray, List.map_cons, List.map_nil] <;> rfl) ?_
            with_reducible refine (HMo.out _ _ (SlN.lit2 (x := ⟨c1, c2, c3, c4⟩) (y := ⟨d1, d2, d3, d4⟩) BL BL.lt)).mono ?_
            rintro e w4 ⟨rfl, hb⟩
            refine ⟨_, rfl, ?_⟩
            have BX4 := BX4.call hb
            have BY4 := BY4.call hb
            have BR4 := BR4.call hb
            have HB4 := bl_trans HB4 hb
            have BL2 := BL2.call hb
            refine hK.out _ _ ⟨BX4.cell 0, BX4.cell 1, BX4.cell 2, BX4.cell 3, BX4.cell 4, BX4.cell 5, BX4.cell 6, BX4.cell 7, BX4.cell 8, BY4.cell 0, BY4.cell 1, BY4.cell 2, BY4.cell 3, BY4.cell 4, BY4.cell 5, BY4.cell 6, BY4.cell 7, BY4.cell 8⟩ (fun hHeld => ?_)
            exact norm_ (by rfl) (hJ (w3.heap.size, w3.heap.size + 1) _ ⟨BX4, BY4, BR4, HB4, (SlN.lit2 (x := ⟨c5, c6, c7, c8⟩) (y := ⟨d5, d6, d7, d8⟩) BL2 BL2.lt)⟩)
        · skip
          refine value_ (v := ?_) (w1 := ?_) (by rfl) rfl ?_ ?_
          rotate_left 2
          · go_simp
            first | rfl | (constructor <;> rfl)
          have BL2 := Blk.new w3 24 #[.int .i64 c5, .bool c6, .int .u64 c7, .int .i64 c8, .int .i64 d5, .bool d6, .int .u64 d7, .int .i64 d8]
          have BX4 := BX4.alloc (.cells #[.int .i64 c5, .bool c6, .int .u64 c7, .int .i64 c8, .int .i64 d5, .bool d6, .int .u64 d7, .int .i64 d8] 24)
          have BY4 := BY4.alloc (.cells #[.int .i64 c5, .bool c6, .int .u64 c7, .int .i64 c8, .int .i64 d5, .bool d6, .int .u64 d7, .int .i64 d8] 24)
          have BR4 := BR4.alloc (.cells #[.int .i64 c5, .bool c6, .int .u64 c7, .int .i64 c8, .int .i64 d5, .bool d6, .int .u64 d7, .int .i64 d8] 24)
          have HB4 := bl_alloc HB4 (.cells #[.int .i64 c5, .bool c6, .int .u64 c7, .int .i64 c8, .int .i64 d5, .bool d6, .int .u64 d7, .int .i64 d8] 24)
          refine hK.out _ _ ⟨BX4.cell 0, BX4.cell 1, BX4.cell 2, BX4.cell 3, BX4.cell 4, BX4.cell 5, BX4.cell 6, BX4.cell 7, BX4.cell 8, BY4.cell 0, BY4.cell 1, BY4.cell 2, BY4.cell 3, BY4.cell 4, BY4.cell 5, BY4.cell 6, BY4.cell 7, BY4.cell 8⟩ (fun hHeld => ?_)
          clear hK K
          refine norm_ (a' := ?_) ?_ ?_
          rotate_left
          · show Act.put _ (some 28) _ = _
            simp only [Act.put, List.setIfInBounds_toArray, List.set_cons_zero, List.set_cons_succ]
            rfl
          refine one_ (i := 4) (N := some 22) #[true, true, true, true, true, false, true, true, true, true, true, false, false, false] rfl rfl (by kernel_rfl) (by decide) (fun K hK => ?_)
          refine value_ (v := ?_) (w1 := ?_) (by rfl) rfl ?_ ?_
          rotate_left 2
          · go_simp
            first | rfl | (constructor <;> rfl)
          have BL := Blk.new1 w3 (.cells #[.int .i64 c5, .bool c6, .int .u64 c7, .int .i64 c8, .int .i64 d5, .bool d6, .int .u64 d7, .int .i64 d8] 24) 24 #[.int .i64 c1, .bool c2, .int .u64 c3, .int .i64 c4, .int .i64 d1, .bool d2, .int .u64 d3, .int .i64 d4]
          have BL2 := BL2.alloc (.cells #[.int .i64 c1, .bool c2, .int .u64 c3, .int .i64 c4, .int .i64 d1, .bool d2, .int .u64 d3, .int .i64 d4] 24)
          have BX4 := BX4.alloc (.cells #[.int .i64 c1, .bool c2, .int .u64 c3, .int .i64 c4, .int .i64 d1, .bool d2, .int .u64 d3, .int .i64 d4] 24)
          have BY4 := BY4.alloc (.cells #[.int .i64 c1, .bool c2, .int .u64 c3, .int .i64 c4, .int .i64 d1, .bool d2, .int .u64 d3, .int .i64 d4] 24)
          have BR4 := BR4.alloc (.cells #[.int .i64 c1, .bool c2, .int .u64 c3, .int .i64 c4, .int .i64 d1, .bool d2, .int .u64 d3, .int .i64 d4] 24)
          have HB4 := bl_alloc HB4 (.cells #[.int .i64 c1, .bool c2, .int .u64 c3, .int .i64 c4, .int .i64 d1, .bool d2, .int .u64 d3, .int .i64 d4] 24)
          refine hK.out _ _ ⟨BX4.cell 0, BX4.cell 1, BX4.cell 2, BX4.cell 3, BX4.cell 4, BX4.cell 5, BX4.cell 6, BX4.cell 7, BX4.cell 8, BY4.cell 0, BY4.cell 1, BY4.cell 2, BY4.cell 3, BY4.cell 4, BY4.cell 5, BY4.cell 6, BY4.cell 7, BY4.cell 8⟩ (fun hHeld => ?_)
          clear hK K
          refine norm_ (a' := ?_) ?_ ?_
          rotate_left
          · show Act.put _ (some 22) _ = _
            simp only [Act.put, List.setIfInBounds_toArray, List.set_cons_zero, List.set_cons_succ]
            rfl
          refine one_ (i := 5) (N := some 23) #[true, true, true, true, true, true, true, true, true, true, true, false, false, false] rfl rfl (by kernel_rfl) (by decide) (fun K hK => ?_)
          refine goes_ Try.func114 (by kernel_rfl) rfl #[.slice (some ⟨w3.heap.size + 1, 0, none⟩) 2 2] (by rfl) rfl rfl (by simp only [List.map_toArray, List.map_cons, List.map_nil] <;> rfl) ?_
          with_reducible refine (HMo.out _ _ (SlN.lit2 (x := ⟨c1, c2, c3, c4⟩) (y := ⟨d1, d2, d3, d4⟩) BL BL.lt)).mono ?_
          rintro e w4 ⟨rfl, hb⟩
          refine ⟨_, rfl, ?_⟩
          have BX4 := BX4.call hb
          have BY4 := BY4.call hb
          have BR4 := BR4.call hb
          have HB4 := bl_trans HB4 hb
          have BL2 := BL2.call hb
          refine hK.out _ _ ⟨BX4.cell 0, BX4.cell 1, BX4.cell 2, BX4.cell 3, BX4.cell 4, BX4.cell 5, BX4.cell 6, BX4.cell 7, BX4.cell 8, BY4.cell 0, BY4.cell 1, BY4.cell 2, BY4.cell 3, BY4.cell 4, BY4.cell 5, BY4.cell 6, BY4.cell 7, BY4.cell 8⟩ (fun hHeld => ?_)
          exact norm_ (by rfl) (hJ (w3.heap.size + 1, w3.heap.size) _ ⟨BX4, BY4, BR4, HB4, (SlN.lit2 (x := ⟨c5, c6, c7, c8⟩) (y := ⟨d5, d6, d7, d8⟩) BL2 BL2.lt)⟩)
    · skip
      obtain ⟨⟨p0, p1, p2, p3, p4, p5, p6, p7, p8⟩, _⟩ := BX4.c9
      obtain ⟨⟨r0', r1', r2', r3', r4', r5', r6', r7', r8'⟩, _⟩ := BY4.c9
      go_wp2_with (go_at_call 71; refine (r8none_lit _).mono ?_; rintro e w3 ⟨rfl, hb⟩; have BR4 := BR4.call hb; have HB4 := bl_trans HB4 hb; obtain ⟨⟨q0, q1, q2, q3, q4, q5, q6, q7, q8⟩, ⟨f0, f1, f2, f3, f4, f5, f6, f7, f8⟩⟩ := BR4.c9; obtain ⟨W9, hW9, B9, _, hL9, _⟩ := put9 BR4 (.bool true) (.int .i64 0) (.bool false) (.int .u64 0) (.int .i64 0) (.int .i64 0) (.bool false) (.int .u64 0) (.int .i64 0); have HB9 := hL9 w HB4 (by omega))
      exact bodyPost_ret (results_cell_row rfl _ _ (w.heap.size + 1 + 1) 26 #[.bool true, .int .i64 0, .bool false, .int .u64 0, .int .i64 0, .int .i64 0, .bool false, .int .u64 0, .int .i64 0] (0, 0) _ rfl B9 Try.underlying26 rfl (by kernel_rfl)) rfl ⟨rfl, HB9⟩
  · skip
    obtain ⟨⟨p0, p1, p2, p3, p4, p5, p6, p7, p8⟩, _⟩ := BX4.c9
    obtain ⟨⟨r0', r1', r2', r3', r4', r5', r6', r7', r8'⟩, _⟩ := BY4.c9
    go_wp2_with (go_at_call 71; refine (r8none_lit _).mono ?_; rintro e w3 ⟨rfl, hb⟩; have BR4 := BR4.call hb; have HB4 := bl_trans HB4 hb; obtain ⟨⟨q0, q1, q2, q3, q4, q5, q6, q7, q8⟩, ⟨f0, f1, f2, f3, f4, f5, f6, f7, f8⟩⟩ := BR4.c9; obtain ⟨W9, hW9, B9, _, hL9, _⟩ := put9 BR4 (.bool true) (.int .i64 0) (.bool false) (.int .u64 0) (.int .i64 0) (.int .i64 0) (.bool false) (.int .u64 0) (.int .i64 0); have HB9 := hL9 w HB4 (by omega))
    exact bodyPost_ret (results_cell_row rfl _ _ (w.heap.size + 1 + 1) 26 #[.bool true, .int .i64 0, .bool false, .int .u64 0, .int .i64 0, .int .i64 0, .bool false, .int .u64 0, .int .i64 0] (0, 0) _ rfl B9 Try.underlying26 rfl (by kernel_rfl)) rfl ⟨rfl, HB9⟩

set_option maxRecDepth 100000 in
set_option maxHeartbeats 8000000 in
theorem r8both_calls (a0 : Bool) (a1 : Int) (a2 : Bool) (a3 a4 a5 : Int) (a6 : Bool) (a7 a8 : Int) (b0 : Bool) (b1 : Int) (b2 : Bool) (b3 b4 b5 : Int) (b6 : Bool) (b7 b8 : Int) (w : World) :
    Calls Try.prog 81 #[.agg #[.bool a0, .int .i64 a1, .bool a2, .int .u64 a3, .int .i64 a4, .int .i64 a5, .bool a6, .int .u64 a7, .int .i64 a8], .agg #[.bool b0, .int .i64 b1, .bool b2, .int .u64 b3, .int .i64 b4, .int .i64 b5, .bool b6, .int .u64 b7, .int .i64 b8]] w fun e w' => e = .returned (.agg #[.bool (bothI ⟨a0, ⟨a1, a2, a3, a4⟩, ⟨a5, a6, a7, a8⟩⟩ ⟨b0, ⟨b1, b2, b3, b4⟩, ⟨b5, b6, b7, b8⟩⟩).emp, .int .i64 ((bothI ⟨a0, ⟨a1, a2, a3, a4⟩, ⟨a5, a6, a7, a8⟩⟩ ⟨b0, ⟨b1, b2, b3, b4⟩, ⟨b5, b6, b7, b8⟩⟩).lo).k, .bool ((bothI ⟨a0, ⟨a1, a2, a3, a4⟩, ⟨a5, a6, a7, a8⟩⟩ ⟨b0, ⟨b1, b2, b3, b4⟩, ⟨b5, b6, b7, b8⟩⟩).lo).n, .int .u64 ((bothI ⟨a0, ⟨a1, a2, a3, a4⟩, ⟨a5, a6, a7, a8⟩⟩ ⟨b0, ⟨b1, b2, b3, b4⟩, ⟨b5, b6, b7, b8⟩⟩).lo).m, .int .i64 ((bothI ⟨a0, ⟨a1, a2, a3, a4⟩, ⟨a5, a6, a7, a8⟩⟩ ⟨b0, ⟨b1, b2, b3, b4⟩, ⟨b5, b6, b7, b8⟩⟩).lo).e, .int .i64 ((bothI ⟨a0, ⟨a1, a2, a3, a4⟩, ⟨a5, a6, a7, a8⟩⟩ ⟨b0, ⟨b1, b2, b3, b4⟩, ⟨b5, b6, b7, b8⟩⟩).hi).k, .bool ((bothI ⟨a0, ⟨a1, a2, a3, a4⟩, ⟨a5, a6, a7, a8⟩⟩ ⟨b0, ⟨b1, b2, b3, b4⟩, ⟨b5, b6, b7, b8⟩⟩).hi).n, .int .u64 ((bothI ⟨a0, ⟨a1, a2, a3, a4⟩, ⟨a5, a6, a7, a8⟩⟩ ⟨b0, ⟨b1, b2, b3, b4⟩, ⟨b5, b6, b7, b8⟩⟩).hi).m, .int .i64 ((bothI ⟨a0, ⟨a1, a2, a3, a4⟩, ⟨a5, a6, a7, a8⟩⟩ ⟨b0, ⟨b1, b2, b3, b4⟩, ⟨b5, b6, b7, b8⟩⟩).hi).e]) ∧ Below w.heap.size w w' := by
  unfold bothI
  have HF := Lib.hid (fun W => r8fair_calls a0 a1 a2 a3 a4 a5 a6 a7 a8 W)
  have HG := Lib.hid (fun W => r8fair_calls b0 b1 b2 b3 b4 b5 b6 b7 b8 W)
  generalize fairI ⟨a0, ⟨a1, a2, a3, a4⟩, ⟨a5, a6, a7, a8⟩⟩ = c at HF ⊢
  generalize fairI ⟨b0, ⟨b1, b2, b3, b4⟩, ⟨b5, b6, b7, b8⟩⟩ = d at HG ⊢
  obtain ⟨c0, ⟨c1, c2, c3, c4⟩, ⟨c5, c6, c7, c8⟩⟩ := c
  obtain ⟨d0, ⟨d1, d2, d3, d4⟩, ⟨d5, d6, d7, d8⟩⟩ := d
  dsimp only at HF HG ⊢
  have HMo := Lib.hid (fun A W (h : SlN W W.heap.size A 2 [⟨c1, c2, c3, c4⟩, ⟨d1, d2, d3, d4⟩]) => rleastN_calls A 2 2 _ W h (by omega))
  have HLe := Lib.hid (fun A W (h : SlN W W.heap.size A 2 [⟨c5, c6, c7, c8⟩, ⟨d5, d6, d7, d8⟩]) => rmostN_calls A 2 2 _ W h (by omega))
  generalize leastN [⟨c1, c2, c3, c4⟩, ⟨d1, d2, d3, d4⟩] = m at HMo ⊢
  generalize mostN [⟨c5, c6, c7, c8⟩, ⟨d5, d6, d7, d8⟩] = n at HLe ⊢
  obtain ⟨m0, m1, m2, m3⟩ := m
  obtain ⟨n0, n1, n2, n3⟩ := n
  have HMk := Lib.hid (fun W => r8make_calls m0 m1 m2 m3 n0 n1 n2 n3 W)
  generalize makeI ⟨m0, m1, m2, m3⟩ ⟨n0, n1, n2, n3⟩ = r at HMk ⊢
  obtain ⟨r0, ⟨r1, r2, r3, r4⟩, ⟨r5, r6, r7, r8⟩⟩ := r
  dsimp only at HMo HLe HMk ⊢
  have BB := (Blk.new1 w (.cells #[.bool a0, .int .i64 a1, .bool a2, .int .u64 a3, .int .i64 a4, .int .i64 a5, .bool a6, .int .u64 a7, .int .i64 a8] 26) 26 #[.bool b0, .int .i64 b1, .bool b2, .int .u64 b3, .int .i64 b4, .int .i64 b5, .bool b6, .int .u64 b7, .int .i64 b8]).alloc (.cells #[.bool false, .int .i64 0, .bool false, .int .u64 0, .int .i64 0, .int .i64 0, .bool false, .int .u64 0, .int .i64 0] 26)
  have BR0 := (Blk.new2 w (.cells #[.bool a0, .int .i64 a1, .bool a2, .int .u64 a3, .int .i64 a4, .int .i64 a5, .bool a6, .int .u64 a7, .int .i64 a8] 26) (.cells #[.bool b0, .int .i64 b1, .bool b2, .int .u64 b3, .int .i64 b4, .int .i64 b5, .bool b6, .int .u64 b7, .int .i64 b8] 26) 26 #[.bool false, .int .i64 0, .bool false, .int .u64 0, .int .i64 0, .int .i64 0, .bool false, .int .u64 0, .int .i64 0])
  have BR : Blk _ (w.heap.size + 1 + 1) _ _ := BR0
  clear BR0
  have HB := bl_alloc (bl_alloc (bl_alloc (Below.refl w.heap.size w) (.cells #[.bool a0, .int .i64 a1, .bool a2, .int .u64 a3, .int .i64 a4, .int .i64 a5, .bool a6, .int .u64 a7, .int .i64 a8] 26)) (.cells #[.bool b0, .int .i64 b1, .bool b2, .int .u64 b3, .int .i64 b4, .int .i64 b5, .bool b6, .int .u64 b7, .int .i64 b8] 26)) (.cells #[.bool false, .int .i64 0, .bool false, .int .u64 0, .int .i64 0, .int .i64 0, .bool false, .int .u64 0, .int .i64 0] 26)
  go_enter Try.func81, Try.ntmps81
  go_wp2_with fail
  refine (HF.out _).mono ?_
  rintro e w1 ⟨rfl, hb⟩
  have BB := (BB.call hb).alloc (.cells #[.bool c0, .int .i64 c1, .bool c2, .int .u64 c3, .int .i64 c4, .int .i64 c5, .bool c6, .int .u64 c7, .int .i64 c8] 26)
  have BR := (BR.call hb).alloc (.cells #[.bool c0, .int .i64 c1, .bool c2, .int .u64 c3, .int .i64 c4, .int .i64 c5, .bool c6, .int .u64 c7, .int .i64 c8] 26)
  have HB := bl_alloc (bl_trans HB hb) (.cells #[.bool c0, .int .i64 c1, .bool c2, .int .u64 c3, .int .i64 c4, .int .i64 c5, .bool c6, .int .u64 c7, .int .i64 c8] 26)
  have BC := Blk.new w1 26 #[.bool c0, .int .i64 c1, .bool c2, .int .u64 c3, .int .i64 c4, .int .i64 c5, .bool c6, .int .u64 c7, .int .i64 c8]
  clear hb
  obtain ⟨⟨p0, p1, p2, p3, p4, p5, p6, p7, p8⟩, _⟩ := BB.c9
  go_wp2_with fail
  refine (HG.out _).mono ?_
  rintro e w2 ⟨rfl, hb⟩
  clear p0 p1 p2 p3 p4 p5 p6 p7 p8
  have HB4 := bl_alloc (bl_trans HB hb) (.cells #[.bool d0, .int .i64 d1, .bool d2, .int .u64 d3, .int .i64 d4, .int .i64 d5, .bool d6, .int .u64 d7, .int .i64 d8] 26)
  have BX4 := (BC.call hb).alloc (.cells #[.bool d0, .int .i64 d1, .bool d2, .int .u64 d3, .int .i64 d4, .int .i64 d5, .bool d6, .int .u64 d7, .int .i64 d8] 26)
  have BR4 := (BR.call hb).alloc (.cells #[.bool d0, .int .i64 d1, .bool d2, .int .u64 d3, .int .i64 d4, .int .i64 d5, .bool d6, .int .u64 d7, .int .i64 d8] 26)
  have BY4 := Blk.new w2 26 #[.bool d0, .int .i64 d1, .bool d2, .int .u64 d3, .int .i64 d4, .int .i64 d5, .bool d6, .int .u64 d7, .int .i64 d8]
  clear hb BB BC BR HB HF HG
  cases c0
  · cases d0
    · skip
      obtain ⟨⟨p0, p1, p2, p3, p4, p5, p6, p7, p8⟩, _⟩ := BX4.c9
      obtain ⟨⟨r0', r1', r2', r3', r4', r5', r6', r7', r8'⟩, _⟩ := BY4.c9
      go_wp2_with fail
      replace BX4 := BX4.drew
      replace BY4 := BY4.drew
      replace BR4 := BR4.drew
      replace HB4 := bl_drew HB4
      clear p0 p1 p2 p3 p4 p5 p6 p7 p8 r0' r1' r2' r3' r4' r5' r6' r7' r8'
      refine start_ (n := 14) (S := fun w' => w'.cell? ⟨w1.heap.size, 0, none⟩ = some (.bool false) ∧ w'.cell? ⟨w1.heap.size, 1, none⟩ = some (.int .i64 c1) ∧ w'.cell? ⟨w1.heap.size, 2, none⟩ = some (.bool c2) ∧ w'.cell? ⟨w1.heap.size, 3, none⟩ = some (.int .u64 c3) ∧ w'.cell? ⟨w1.heap.size, 4, none⟩ = some (.int .i64 c4) ∧ w'.cell? ⟨w1.heap.size, 5, none⟩ = some (.int .i64 c5) ∧ w'.cell? ⟨w1.heap.size, 6, none⟩ = some (.bool c6) ∧ w'.cell? ⟨w1.heap.size, 7, none⟩ = some (.int .u64 c7) ∧ w'.cell? ⟨w1.heap.size, 8, none⟩ = some (.int .i64 c8) ∧ w'.cell? ⟨w2.heap.size, 0, none⟩ = some (.bool false) ∧ w'.cell? ⟨w2.heap.size, 1, none⟩ = some (.int .i64 d1) ∧ w'.cell? ⟨w2.heap.size, 2, none⟩ = some (.bool d2) ∧ w'.cell? ⟨w2.heap.size, 3, none⟩ = some (.int .u64 d3) ∧ w'.cell? ⟨w2.heap.size, 4, none⟩ = some (.int .i64 d4) ∧ w'.cell? ⟨w2.heap.size, 5, none⟩ = some (.int .i64 d5) ∧ w'.cell? ⟨w2.heap.size, 6, none⟩ = some (.bool d6) ∧ w'.cell? ⟨w2.heap.size, 7, none⟩ = some (.int .u64 d7) ∧ w'.cell? ⟨w2.heap.size, 8, none⟩ = some (.int .i64 d8)) (ds := [13]) #[false, false, false, false, false, false, false, false, false, false, false, false, false, false] (by kernel_rfl) rfl rfl ⟨BX4.cell 0, BX4.cell 1, BX4.cell 2, BX4.cell 3, BX4.cell 4, BX4.cell 5, BX4.cell 6, BX4.cell 7, BX4.cell 8, BY4.cell 0, BY4.cell 1, BY4.cell 2, BY4.cell 3, BY4.cell 4, BY4.cell 5, BY4.cell 6, BY4.cell 7, BY4.cell 8⟩ (fun hHeld => ?_)
      generalize hWW : World.drew _ = w3 at BX4 BY4 BR4 HB4 hHeld ⊢
      clear hWW
      refine pure_ (i := 0) (N := some 17) (v := ?_) (a' := ?_) #[true, false, false, false, false, false, false, false, false, false, false, false, false, false] rfl rfl (by kernel_rfl) (fun _ _ _ h => h) (Or.inl ⟨by rfl, ?_⟩) ?_ ?_
      rotate_left
      · intro w'
        go_simp
        with_reducible rfl
      rotate_left
      · simp only [Act.put, List.setIfInBounds_toArray, List.set_cons_zero, List.set_cons_succ]
        rfl
      refine take_ (i := 1) (N := some 18) (v := ?_) (a' := ?_) #[true, true, false, false, false, false, false, false, false, false, false, false, false, false] rfl rfl (by kernel_rfl) (fun _ _ _ h => h) (Or.inl ⟨by rfl, ?_⟩) hHeld ?_ ?_
      rotate_left
      · rintro w' ⟨s0_, s1_, s2_, s3_, s4_, s5_, s6_, s7_, s8_, s9_, s10_, s11_, s12_, s13_, s14_, s15_, s16_, s17_⟩
        go_simp
        with_reducible rfl
      rotate_left
      · simp only [Act.put, List.setIfInBounds_toArray, List.set_cons_zero, List.set_cons_succ]
        rfl
      refine pure_ (i := 2) (N := some 19) (v := ?_) (a' := ?_) #[true, true, true, false, false, false, false, false, false, false, false, false, false, false] rfl rfl (by kernel_rfl) (fun _ _ _ h => h) (Or.inl ⟨by rfl, ?_⟩) ?_ ?_
      rotate_left
      · intro w'
        go_simp
        with_reducible rfl
      rotate_left
      · simp only [Act.put, List.setIfInBounds_toArray, List.set_cons_zero, List.set_cons_succ]
        rfl
      refine take_ (i := 3) (N := some 20) (v := ?_) (a' := ?_) #[true, true, true, true, false, false, false, false, false, false, false, false, false, false] rfl rfl (by kernel_rfl) (fun _ _ _ h => h) (Or.inl ⟨by rfl, ?_⟩) hHeld ?_ ?_
      rotate_left
      · rintro w' ⟨s0_, s1_, s2_, s3_, s4_, s5_, s6_, s7_, s8_, s9_, s10_, s11_, s12_, s13_, s14_, s15_, s16_, s17_⟩
        go_simp
        with_reducible rfl
      rotate_left
      · simp only [Act.put, List.setIfInBounds_toArray, List.set_cons_zero, List.set_cons_succ]
        rfl
      refine pure_ (i := 6) (N := some 23) (v := ?_) (a' := ?_) #[true, true, true, true, false, false, true, false, false, false, false, false, false, false] rfl rfl (by kernel_rfl) (fun _ _ _ h => h) (Or.inl ⟨by rfl, ?_⟩) ?_ ?_
      rotate_left
      · intro w'
        go_simp
        with_reducible rfl
      rotate_left
      · simp only [Act.put, List.setIfInBounds_toArray, List.set_cons_zero, List.set_cons_succ]
        rfl
      refine take_ (i := 7) (N := some 24) (v := ?_) (a' := ?_) #[true, true, true, true, false, false, true, true, false, false, false, false, false, false] rfl rfl (by kernel_rfl) (fun _ _ _ h => h) (Or.inl ⟨by rfl, ?_⟩) hHeld ?_ ?_
      rotate_left
      · rintro w' ⟨s0_, s1_, s2_, s3_, s4_, s5_, s6_, s7_, s8_, s9_, s10_, s11_, s12_, s13_, s14_, s15_, s16_, s17_⟩
        go_simp
        with_reducible rfl
      rotate_left
      · simp only [Act.put, List.setIfInBounds_toArray, List.set_cons_zero, List.set_cons_succ]
        rfl
      refine pure_ (i := 8) (N := some 25) (v := ?_) (a' := ?_) #[true, true, true, true, false, false, true, true, true, false, false, false, false, false] rfl rfl (by kernel_rfl) (fun _ _ _ h => h) (Or.inl ⟨by rfl, ?_⟩) ?_ ?_
      rotate_left
      · intro w'
        go_simp
        with_reducible rfl
      rotate_left
      · simp only [Act.put, List.setIfInBounds_toArray, List.set_cons_zero, List.set_cons_succ]
        rfl
      refine take_ (i := 9) (N := some 26) (v := ?_) (a' := ?_) #[true, true, true, true, false, false, true, true, true, true, false, false, false, false] rfl rfl (by kernel_rfl) (fun _ _ _ h => h) (Or.inl ⟨by rfl, ?_⟩) hHeld ?_ ?_
      rotate_left
      · rintro w' ⟨s0_, s1_, s2_, s3_, s4_, s5_, s6_, s7_, s8_, s9_, s10_, s11_, s12_, s13_, s14_, s15_, s16_, s17_⟩
        go_simp
        with_reducible rfl
      rotate_left
      · simp only [Act.put, List.setIfInBounds_toArray, List.set_cons_zero, List.set_cons_succ]
        rfl
      refine join_ (σ := Nat × Nat) 3 #[true, true, true, true, true, true, true, true, true, true, true, false, false, false] (fun s => [(21, .slice (some ⟨s.1, 0, none⟩) 2 2), (22, .agg #[.int .i64 m0, .bool m1, .int .u64 m2, .int .i64 m3]), (27, .slice (some ⟨s.2, 0, none⟩) 2 2)]) (fun s w' => Blk w' w1.heap.size 26 #[.bool false, .int .i64 c1, .bool c2, .int .u64 c3, .int .i64 c4, .int .i64 c5, .bool c6, .int .u64 c7, .int .i64 c8] ∧ Blk w' w2.heap.size 26 #[.bool false, .int .i64 d1, .bool d2, .int .u64 d3, .int .i64 d4, .int .i64 d5, .bool d6, .int .u64 d7, .int .i64 d8] ∧ Blk w' (w.heap.size + 1 + 1) 26 #[.bool false, .int .i64 0, .bool false, .int .u64 0, .int .i64 0, .int .i64 0, .bool false, .int .u64 0, .int .i64 0] ∧ Below w.heap.size w w' ∧ SlN w' w'.heap.size (some ⟨s.2, 0, none⟩) 2 [⟨c5, c6, c7, c8⟩, ⟨d5, d6, d7, d8⟩]) ?_ (fun hJ => ?_)
      · skip
        rintro ⟨s1, s2⟩ w6 ⟨BX4, BY4, BR4, HB4, HS⟩
        clear hHeld
        refine norm_ (a' := ?_) ?_ ?_
        rotate_left
        · simp only [putAll, Act.put, List.setIfInBounds_toArray, List.set_cons_zero, List.set_cons_succ]
          rfl
        refine one_ (i := 11) (N := some 28) #[true, true, true, true, true, true, true, true, true, true, true, true, false, false] rfl rfl (by kernel_rfl) (by decide) (fun K hK => ?_)
        refine goes_ Try.func114 (by kernel_rfl) rfl #[.slice (some ⟨s2, 0, none⟩) 2 2] (by rfl) rfl rfl (by simp only [List.map_toArray, List.map_cons, List.map_nil] <;> rfl) ?_
        with_reducible refine (HLe.out _ _ HS).mono ?_
        rintro e w7 ⟨rfl, hb⟩
        refine ⟨_, rfl, ?_⟩
        have BX4 := BX4.call hb
        have BY4 := BY4.call hb
        have BR4 := BR4.call hb
        have HB4 := bl_trans HB4 hb
        refine hK.out _ _ ⟨BX4.cell 0, BX4.cell 1, BX4.cell 2, BX4.cell 3, BX4.cell 4, BX4.cell 5, BX4.cell 6, BX4.cell 7, BX4.cell 8, BY4.cell 0, BY4.cell 1, BY4.cell 2, BY4.cell 3, BY4.cell 4, BY4.cell 5, BY4.cell 6, BY4.cell 7, BY4.cell 8⟩ (fun hHeld => ?_)
        clear hK K hb
        refine norm_ (a' := ?_) ?_ ?_
        rotate_left
        · show Act.put _ (some 28) _ = _
          simp only [Act.put, List.setIfInBounds_toArray, List.set_cons_zero, List.set_cons_succ]
          rfl
        refine one_ (i := 12) (N := some 29) #[true, true, true, true, true, true, true, true, true, true, true, true, true, false] rfl rfl (by kernel_rfl) (by decide) (fun K hK => ?_)
        refine goes_ Try.func72 (by kernel_rfl) rfl #[.agg #[.int .i64 m0, .bool m1, .int .u64 m2, .int .i64 m3], .agg #[.int .i64 n0, .bool n1, .int .u64 n2, .int .i64 n3]] (by rfl) rfl rfl (by simp only [List.map_toArray, List.map_cons, List.map_nil] <;> rfl) ?_
        with_reducible refine (HMk.out _).mono ?_
        rintro e w8 ⟨rfl, hb⟩
        refine ⟨_, rfl, ?_⟩
        have BX4 := BX4.call hb
        have BY4 := BY4.call hb
        have BR4 := BR4.call hb
        have HB4 := bl_trans HB4 hb
        refine hK.out _ _ ⟨BX4.cell 0, BX4.cell 1, BX4.cell 2, BX4.cell 3, BX4.cell 4, BX4.cell 5, BX4.cell 6, BX4.cell 7, BX4.cell 8, BY4.cell 0, BY4.cell 1, BY4.cell 2, BY4.cell 3, BY4.cell 4, BY4.cell 5, BY4.cell 6, BY4.cell 7, BY4.cell 8⟩ (fun hHeld => ?_)
        clear hK K hb
        refine norm_ (a' := ?_) ?_ ?_
        rotate_left
        · show Act.put _ (some 29) _ = _
          simp only [Act.put, List.setIfInBounds_toArray, List.set_cons_zero, List.set_cons_succ]
          rfl
        obtain ⟨⟨q0, q1, q2, q3, q4, q5, q6, q7, q8⟩, ⟨f0, f1, f2, f3, f4, f5, f6, f7, f8⟩⟩ := BR4.c9
        obtain ⟨W9, hW9, B9, _, hL9, _⟩ := put9 BR4 (.bool r0) (.int .i64 r1) (.bool r2) (.int .u64 r3) (.int .i64 r4) (.int .i64 r5) (.bool r6) (.int .u64 r7) (.int .i64 r8)
        have HB9 := hL9 w HB4 (by omega)
        refine last_ (i := 13) (N := none) #[true, true, true, true, true, true, true, true, true, true, true, true, true, true] rfl rfl (by kernel_rfl) (by decide) (fun K hK => ?_)
        refine skip_ (w1 := ?_) (by rfl) rfl ?_ ?_
        rotate_left
        · go_simp
          rfl
        refine hK.out _ _ ?_
        clear hK K
        refine done_ (by kernel_rfl) ?_
        clear hHeld BX4 BY4 BR4 HB4
        go_wp2
        exact bodyPost_ret (results_cell_row rfl _ _ (w.heap.size + 1 + 1) 26 #[.bool r0, .int .i64 r1, .bool r2, .int .u64 r3, .int .i64 r4, .int .i64 r5, .bool r6, .int .u64 r7, .int .i64 r8] (0, 0) _ rfl B9 Try.underlying26 rfl (by kernel_rfl)) rfl ⟨rfl, HB9⟩
      · skip
        refine two_ (i := 4) (j := 10) (Ni := some 21) (Nj := some 27) #[true, true, true, true, true, false, true, true, true, true, false, false, false, false] #[true, true, true, true, false, false, true, true, true, true, true, false, false, false] rfl rfl rfl rfl (by kernel_rfl) (by decide) (by decide) (fun K hK => ?_) (fun K hK => ?_)
        · skip
          refine value_ (v := ?_) (w1 := ?_) (by rfl) rfl ?_ ?_
          rotate_left 2
          · go_simp
            first | rfl | (constructor <;> rfl)
          have BL := Blk.new w3 24 #[.int .i64 c1, .bool c2, .int .u64 c3, .int .i64 c4, .int .i64 d1, .bool d2, .int .u64 d3, .int .i64 d4]
          have BX4 := BX4.alloc (.cells #[.int .i64 c1, .bool c2, .int .u64 c3, .int .i64 c4, .int .i64 d1, .bool d2, .int .u64 d3, .int .i64 d4] 24)
          have BY4 := BY4.alloc (.cells #[.int .i64 c1, .bool c2, .int .u64 c3, .int .i64 c4, .int .i64 d1, .bool d2, .int .u64 d3, .int .i64 d4] 24)
          have BR4 := BR4.alloc (.cells #[.int .i64 c1, .bool c2, .int .u64 c3, .int .i64 c4, .int .i64 d1, .bool d2, .int .u64 d3, .int .i64 d4] 24)
          have HB4 := bl_alloc HB4 (.cells #[.int .i64 c1, .bool c2, .int .u64 c3, .int .i64 c4, .int .i64 d1, .bool d2, .int .u64 d3, .int .i64 d4] 24)
          refine hK.out _ _ ⟨BX4.cell 0, BX4.cell 1, BX4.cell 2, BX4.cell 3, BX4.cell 4, BX4.cell 5, BX4.cell 6, BX4.cell 7, BX4.cell 8, BY4.cell 0, BY4.cell 1, BY4.cell 2, BY4.cell 3, BY4.cell 4, BY4.cell 5, BY4.cell 6, BY4.cell 7, BY4.cell 8⟩ (fun hHeld => ?_)
          clear hK K
          refine norm_ (a' := ?_) ?_ ?_
          rotate_left
          · show Act.put _ (some 21) _ = _
            simp only [Act.put, List.setIfInBounds_toArray, List.set_cons_zero, List.set_cons_succ]
            rfl
          refine two_ (i := 5) (j := 10) (Ni := some 22) (Nj := some 27) #[true, true, true, true, true, true, true, true, true, true, false, false, false, false] #[true, true, true, true, true, false, true, true, true, true, true, false, false, false] rfl rfl rfl rfl (by kernel_rfl) (by decide) (by decide) (fun K hK => ?_) (fun K hK => ?_)
          · skip
            refine goes_ Try.func115 (by kernel_rfl) rfl #[.slice (some ⟨w3.heap.size, 0, none⟩) 2 2] (by rfl) rfl rfl (by simp only [List.map_toArray, List.map_cons, List.map_nil] <;> rfl) ?_
            with_reducible refine (HMo.out _ _ (SlN.lit2 (x := ⟨c1, c2, c3, c4⟩) (y := ⟨d1, d2, d3, d4⟩) BL BL.lt)).mono ?_
            rintro e w4 ⟨rfl, hb⟩
            refine ⟨_, rfl, ?_⟩
            have BX4 := BX4.call hb
            have BY4 := BY4.call hb
            have BR4 := BR4.call hb
            have HB4 := bl_trans HB4 hb
            refine hK.out _ _ ⟨BX4.cell 0, BX4.cell 1, BX4.cell 2, BX4.cell 3, BX4.cell 4, BX4.cell 5, BX4.cell 6, BX4.cell 7, BX4.cell 8, BY4.cell 0, BY4.cell 1, BY4.cell 2, BY4.cell 3, BY4.cell 4, BY4.cell 5, BY4.cell 6, BY4.cell 7, BY4.cell 8⟩ (fun hHeld => ?_)
            clear hK K hb
            refine norm_ (a' := ?_) ?_ ?_
            rotate_left
            · show Act.put _ (some 22) _ = _
              simp only [Act.put, List.setIfInBounds_toArray, List.set_cons_zero, List.set_cons_succ]
              rfl
            refine one_ (i := 10) (N := some 27) #[true, true, true, true, true, true, true, true, true, true, true, false, false, false] rfl rfl (by kernel_rfl) (by decide) (fun K hK => ?_)
            refine value_ (v := ?_) (w1 := ?_) (by rfl) rfl ?_ ?_
            rotate_left 2
            · go_simp
              first | rfl | (constructor <;> rfl)
            have BL2 := Blk.new w4 24 #[.int .i64 c5, .bool c6, .int .u64 c7, .int .i64 c8, .int .i64 d5, .bool d6, .int .u64 d7, .int .i64 d8]
            have BX4 := BX4.alloc (.cells #[.int .i64 c5, .bool c6, .int .u64 c7, .int .i64 c8, .int .i64 d5, .bool d6, .int .u64 d7, .int .i64 d8] 24)
            have BY4 := BY4.alloc (.cells #[.int .i64 c5, .bool c6, .int .u64 c7, .int .i64 c8, .int .i64 d5, .bool d6, .int .u64 d7, .int .i64 d8] 24)
            have BR4 := BR4.alloc (.cells #[.int .i64 c5, .bool c6, .int .u64 c7, .int .i64 c8, .int .i64 d5, .bool d6, .int .u64 d7, .int .i64 d8] 24)
            have HB4 := bl_alloc HB4 (.cells #[.int .i64 c5, .bool c6, .int .u64 c7, .int .i64 c8, .int .i64 d5, .bool d6, .int .u64 d7, .int .i64 d8] 24)
            refine hK.out _ _ ⟨BX4.cell 0, BX4.cell 1, BX4.cell 2, BX4.cell 3, BX4.cell 4, BX4.cell 5, BX4.cell 6, BX4.cell 7, BX4.cell 8, BY4.cell 0, BY4.cell 1, BY4.cell 2, BY4.cell 3, BY4.cell 4, BY4.cell 5, BY4.cell 6, BY4.cell 7, BY4.cell 8⟩ (fun hHeld => ?_)
            exact norm_ (by rfl) (hJ (w3.heap.size, w4.heap.size) _ ⟨BX4, BY4, BR4, HB4, (SlN.lit2 (x := ⟨c5, c6, c7, c8⟩) (y := ⟨d5, d6, d7, d8⟩) BL2 BL2.lt)⟩)
          · skip
            refine value_ (v := ?_) (w1 := ?_) (by rfl) rfl ?_ ?_
            rotate_left 2
            · go_simp
              first | rfl | (constructor <;> rfl)
            have BL2 := Blk.new1 w3 (.cells #[.int .i64 c1, .bool c2, .int .u64 c3, .int .i64 c4, .int .i64 d1, .bool d2, .int .u64 d3, .int .i64 d4] 24) 24 #[.int .i64 c5, .bool c6, .int .u64 c7, .int .i64 c8, .int .i64 d5, .bool d6, .int .u64 d7, .int .i64 d8]
            have BL := BL.alloc (.cells #[.int .i64 c5, .bool c6, .int .u64 c7, .int .i64 c8, .int .i64 d5, .bool d6, .int .u64 d7, .int .i64 d8] 24)
            have BX4 := BX4.alloc (.cells #[.int .i64 c5, .bool c6, .int .u64 c7, .int .i64 c8, .int .i64 d5, .bool d6, .int .u64 d7, .int .i64 d8] 24)
            have BY4 := BY4.alloc (.cells #[.int .i64 c5, .bool c6, .int .u64 c7, .int .i64 c8, .int .i64 d5, .bool d6, .int .u64 d7, .int .i64 d8] 24)
            have BR4 := BR4.alloc (.cells #[.int .i64 c5, .bool c6, .int .u64 c7, .int .i64 c8, .int .i64 d5, .bool d6, .int .u64 d7, .int .i64 d8] 24)
            have HB4 := bl_alloc HB4 (.cells #[.int .i64 c5, .bool c6, .int .u64 c7, .int .i64 c8, .int .i64 d5, .bool d6, .int .u64 d7, .int .i64 d8] 24)
            refine hK.out _ _ ⟨BX4.cell 0, BX4.cell 1, BX4.cell 2, BX4.cell 3, BX4.cell 4, BX4.cell 5, BX4.cell 6, BX4.cell 7, BX4.cell 8, BY4.cell 0, BY4.cell 1, BY4.cell 2, BY4.cell 3, BY4.cell 4, BY4.cell 5, BY4.cell 6, BY4.cell 7, BY4.cell 8⟩ (fun hHeld => ?_)
            clear hK K
            refine norm_ (a' := ?_) ?_ ?_
            rotate_left
            · show Act.put _ (some 27) _ = _
              simp only [Act.put, List.setIfInBounds_toArray, List.set_cons_zero, List.set_cons_succ]
              rfl
            refine one_ (i := 5) (N := some 22) #[true, true, true, true, true, true, true, true, true, true, true, false, false, false] rfl rfl (by kernel_rfl) (by decide) (fun K hK => ?_)
            refine goes_ Try.func115 (by kernel_rfl) rfl #[.slice (some ⟨w3.heap.size, 0, none⟩) 2 2] (by rfl) rfl rfl (by simp only [List.map_toArray, List.map_cons, List.map_nil] <;> rfl) ?_
            with_reducible refine (HMo.out _ _ (SlN.lit2 (x := ⟨c1, c2, c3, c4⟩) (y := ⟨d1, d2, d3, d4⟩) BL BL.lt)).mono ?_
            rintro e w4 ⟨rfl, hb⟩
            refine ⟨_, rfl, ?_⟩
            have BX4 := BX4.call hb
            have BY4 := BY4.call hb
            have BR4 := BR4.call hb
            have HB4 := bl_trans HB4 hb
            have BL2 := BL2.call hb
            refine hK.out _ _ ⟨BX4.cell 0, BX4.cell 1, BX4.cell 2, BX4.cell 3, BX4.cell 4, BX4.cell 5, BX4.cell 6, BX4.cell 7, BX4.cell 8, BY4.cell 0, BY4.cell 1, BY4.cell 2, BY4.cell 3, BY4.cell 4, BY4.cell 5, BY4.cell 6, BY4.cell 7, BY4.cell 8⟩ (fun hHeld => ?_)
            exact norm_ (by rfl) (hJ (w3.heap.size, w3.heap.size + 1) _ ⟨BX4, BY4, BR4, HB4, (SlN.lit2 (x := ⟨c5, c6, c7, c8⟩) (y := ⟨d5, d6, d7, d8⟩) BL2 BL2.lt)⟩)
        · skip
          refine value_ (v := ?_) (w1 := ?_) (by rfl) rfl ?_ ?_
          rotate_left 2
          · go_simp
            first | rfl | (constructor <;> rfl)
          have BL2 := Blk.new w3 24 #[.int .i64 c5, .bool c6, .int .u64 c7, .int .i64 c8, .int .i64 d5, .bool d6, .int .u64 d7, .int .i64 d8]
          have BX4 := BX4.alloc (.cells #[.int .i64 c5, .bool c6, .int .u64 c7, .int .i64 c8, .int .i64 d5, .bool d6, .int .u64 d7, .int .i64 d8] 24)
          have BY4 := BY4.alloc (.cells #[.int .i64 c5, .bool c6, .int .u64 c7, .int .i64 c8, .int .i64 d5, .bool d6, .int .u64 d7, .int .i64 d8] 24)
          have BR4 := BR4.alloc (.cells #[.int .i64 c5, .bool c6, .int .u64 c7, .int .i64 c8, .int .i64 d5, .bool d6, .int .u64 d7, .int .i64 d8] 24)
          have HB4 := bl_alloc HB4 (.cells #[.int .i64 c5, .bool c6, .int .u64 c7, .int .i64 c8, .int .i64 d5, .bool d6, .int .u64 d7, .int .i64 d8] 24)
          refine hK.out _ _ ⟨BX4.cell 0, BX4.cell 1, BX4.cell 2, BX4.cell 3, BX4.cell 4, BX4.cell 5, BX4.cell 6, BX4.cell 7, BX4.cell 8, BY4.cell 0, BY4.cell 1, BY4.cell 2, BY4.cell 3, BY4.cell 4, BY4.cell 5, BY4.cell 6, BY4.cell 7, BY4.cell 8⟩ (fun hHeld => ?_)
          clear hK K
          refine norm_ (a' := ?_) ?_ ?_
          rotate_left
          · show Act.put _ (some 27) _ = _
            simp only [Act.put, List.setIfInBounds_toArray, List.set_cons_zero, List.set_cons_succ]
            rfl
          refine one_ (i := 4) (N := some 21) #[true, true, true, true, true, false, true, true, true, true, true, false, false, false] rfl rfl (by kernel_rfl) (by decide) (fun K hK => ?_)
          refine value_ (v := ?_) (w1 := ?_) (by rfl) rfl ?_ ?_
          rotate_left 2
          · go_simp
            first | rfl | (constructor <;> rfl)
          have BL := Blk.new1 w3 (.cells #[.int .i64 c5, .bool c6, .int .u64 c7, .int .i64 c8, .int .i64 d5, .bool d6, .int .u64 d7, .int .i64 d8] 24) 24 #[.int .i64 c1, .bool c2, .int .u64 c3, .int .i64 c4, .int .i64 d1, .bool d2, .int .u64 d3, .int .i64 d4]
          have BL2 := BL2.alloc (.cells #[.int .i64 c1, .bool c2, .int .u64 c3, .int .i64 c4, .int .i64 d1, .bool d2, .int .u64 d3, .int .i64 d4] 24)
          have BX4 := BX4.alloc (.cells #[.int .i64 c1, .bool c2, .int .u64 c3, .int .i64 c4, .int .i64 d1, .bool d2, .int .u64 d3, .int .i64 d4] 24)
          have BY4 := BY4.alloc (.cells #[.int .i64 c1, .bool c2, .int .u64 c3, .int .i64 c4, .int .i64 d1, .bool d2, .int .u64 d3, .int .i64 d4] 24)
          have BR4 := BR4.alloc (.cells #[.int .i64 c1, .bool c2, .int .u64 c3, .int .i64 c4, .int .i64 d1, .bool d2, .int .u64 d3, .int .i64 d4] 24)
          have HB4 := bl_alloc HB4 (.cells #[.int .i64 c1, .bool c2, .int .u64 c3, .int .i64 c4, .int .i64 d1, .bool d2, .int .u64 d3, .int .i64 d4] 24)
          refine hK.out _ _ ⟨BX4.cell 0, BX4.cell 1, BX4.cell 2, BX4.cell 3, BX4.cell 4, BX4.cell 5, BX4.cell 6, BX4.cell 7, BX4.cell 8, BY4.cell 0, BY4.cell 1, BY4.cell 2, BY4.cell 3, BY4.cell 4, BY4.cell 5, BY4.cell 6, BY4.cell 7, BY4.cell 8⟩ (fun hHeld => ?_)
          clear hK K
          refine norm_ (a' := ?_) ?_ ?_
          rotate_left
          · show Act.put _ (some 21) _ = _
            simp only [Act.put, List.setIfInBounds_toArray, List.set_cons_zero, List.set_cons_succ]
            rfl
          refine one_ (i := 5) (N := some 22) #[true, true, true, true, true, true, true, true, true, true, true, false, false, false] rfl rfl (by kernel_rfl) (by decide) (fun K hK => ?_)
          refine goes_ Try.func115 (by kernel_rfl) rfl #[.slice (some ⟨w3.heap.size + 1, 0, none⟩) 2 2] (by rfl) rfl rfl (by simp only [List.map_toArray, List.map_cons, List.map_nil] <;> rfl) ?_
          with_reducible refine (HMo.out _ _ (SlN.lit2 (x := ⟨c1, c2, c3, c4⟩) (y := ⟨d1, d2, d3, d4⟩) BL BL.lt)).mono ?_
          rintro e w4 ⟨rfl, hb⟩
          refine ⟨_, rfl, ?_⟩
          have BX4 := BX4.call hb
          have BY4 := BY4.call hb
          have BR4 := BR4.call hb
          have HB4 := bl_trans HB4 hb
          have BL2 := BL2.call hb
          refine hK.out _ _ ⟨BX4.cell 0, BX4.cell 1, BX4.cell 2, BX4.cell 3, BX4.cell 4, BX4.cell 5, BX4.cell 6, BX4.cell 7, BX4.cell 8, BY4.cell 0, BY4.cell 1, BY4.cell 2, BY4.cell 3, BY4.cell 4, BY4.cell 5, BY4.cell 6, BY4.cell 7, BY4.cell 8⟩ (fun hHeld => ?_)
          exact norm_ (by rfl) (hJ (w3.heap.size + 1, w3.heap.size) _ ⟨BX4, BY4, BR4, HB4, (SlN.lit2 (x := ⟨c5, c6, c7, c8⟩) (y := ⟨d5, d6, d7, d8⟩) BL2 BL2.lt)⟩)
    · skip
      obtain ⟨⟨p0, p1, p2, p3, p4, p5, p6, p7, p8⟩, _⟩ := BX4.c9
      obtain ⟨⟨r0', r1', r2', r3', r4', r5', r6', r7', r8'⟩, _⟩ := BY4.c9
      obtain ⟨⟨q0, q1, q2, q3, q4, q5, q6, q7, q8⟩, ⟨f0, f1, f2, f3, f4, f5, f6, f7, f8⟩⟩ := BR4.c9
      obtain ⟨W9, hW9, B9, _, hL9, _⟩ := put9 BR4 (.bool false) (.int .i64 c1) (.bool c2) (.int .u64 c3) (.int .i64 c4) (.int .i64 c5) (.bool c6) (.int .u64 c7) (.int .i64 c8)
      have HB9 := hL9 w HB4 (by omega)
      go_wp2
      exact bodyPost_ret (results_cell_row rfl _ _ (w.heap.size + 1 + 1) 26 #[.bool false, .int .i64 c1, .bool c2, .int .u64 c3, .int .i64 c4, .int .i64 c5, .bool c6, .int .u64 c7, .int .i64 c8] (0, 0) _ rfl B9 Try.underlying26 rfl (by kernel_rfl)) rfl ⟨rfl, HB9⟩
  · skip
    obtain ⟨⟨p0, p1, p2, p3, p4, p5, p6, p7, p8⟩, _⟩ := BX4.c9
    obtain ⟨⟨r0', r1', r2', r3', r4', r5', r6', r7', r8'⟩, _⟩ := BY4.c9
    obtain ⟨⟨q0, q1, q2, q3, q4, q5, q6, q7, q8⟩, ⟨f0, f1, f2, f3, f4, f5, f6, f7, f8⟩⟩ := BR4.c9
    obtain ⟨W9, hW9, B9, _, hL9, _⟩ := put9 BR4 (.bool d0) (.int .i64 d1) (.bool d2) (.int .u64 d3) (.int .i64 d4) (.int .i64 d5) (.bool d6) (.int .u64 d7) (.int .i64 d8)
    have HB9 := hL9 w HB4 (by omega)
    go_wp2
    exact bodyPost_ret (results_cell_row rfl _ _ (w.heap.size + 1 + 1) 26 #[.bool d0, .int .i64 d1, .bool d2, .int .u64 d3, .int .i64 d4, .int .i64 d5, .bool d6, .int .u64 d7, .int .i64 d8] (0, 0) _ rfl B9 Try.underlying26 rfl (by kernel_rfl)) rfl ⟨rfl, HB9⟩

end Go.Proofs.Ytagojbgmgkkdpaa.Wk

