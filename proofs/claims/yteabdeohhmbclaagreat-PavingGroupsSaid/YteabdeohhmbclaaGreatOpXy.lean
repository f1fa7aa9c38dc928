/- Walks: ivop.Neg, ivop.Add of two, ivop.Sub. -/
import Derived.Test.YteabdeohhmbclaaGreatOpAy
import Derived.Test.YteabdeohhmbclaaGreatAriIy
import Derived.Test.YteabdeohhmbclaaGreatAwAy
namespace Go.Proofs.YteabdeohhmbclaaGreat.Wk
open Go.RowKit Go.Proofs.Pl Go.Proofs.YteabdeohhmbclaaGreatW.PrintLast
set_option linter.unusedSimpArgs false
set_option linter.unusedVariables false

def negI (a : Iv) : Iv := if noneB a = true then noneI else makeI (negN a.hi) (negN a.lo)
def addI2 (a b : Iv) : Iv := if (noneB a || noneB b) = true then noneI else makeI (addN a.lo b.lo false) (addN a.hi b.hi true)
def subI (a b : Iv) : Iv := addI2 a (negI b)
theorem none_lit9 (w : World) : Calls Tryz.prog 35 #[] w fun e w' => e = .returned (.agg #[.b true, .i 0, .b false, .u 0, .i 0, .i 0, .b false, .u 0, .i 0]) ∧ Below w.heap.size w w' := noneI_calls w
theorem SlI.one {w : World} {g B : Nat} {T : TypeId} {x : Iv} (h : Blk w g T #[.b x.emp, .i x.lo.k, .b x.lo.n, .u x.lo.m, .i x.lo.e, .i x.hi.k, .b x.hi.n, .u x.hi.m, .i x.hi.e]) (hB : g < B) : SlI w B (some ⟨g, 0, none⟩) 1 [x] := by
 refine ⟨rfl, fun _ => ⟨g, 0, rfl, hB, fun i z hz => ?_⟩⟩
 match i, hz with
 | 0, hz =>
  simp only [List.getElem?_cons_zero, Option.some.injEq] at hz
  subst hz
  exact ⟨h.cell 0, h.cell 1, h.cell 2, h.cell 3, h.cell 4, h.cell 5, h.cell 6, h.cell 7, h.cell 8⟩
 | i + 1, hz => simp at hz
set_option maxRecDepth 100000 in
set_option maxHeartbeats 4000000 in
theorem opneg_calls (a0 : Bool) (a1 : Int) (a2 : Bool) (a3 a4 a5 : Int) (a6 : Bool) (a7 a8 : Int) (w : World) :
  Calls Tryz.prog 88 #[.agg #[.b a0, .i a1, .b a2, .u a3, .i a4, .i a5, .b a6, .u a7, .i a8]] w fun e w' => e = .returned (.agg #[.b (negI ⟨a0, ⟨a1, a2, a3, a4⟩, ⟨a5, a6, a7, a8⟩⟩).emp, .i ((negI ⟨a0, ⟨a1, a2, a3, a4⟩, ⟨a5, a6, a7, a8⟩⟩).lo).k, .b ((negI ⟨a0, ⟨a1, a2, a3, a4⟩, ⟨a5, a6, a7, a8⟩⟩).lo).n, .u ((negI ⟨a0, ⟨a1, a2, a3, a4⟩, ⟨a5, a6, a7, a8⟩⟩).lo).m, .i ((negI ⟨a0, ⟨a1, a2, a3, a4⟩, ⟨a5, a6, a7, a8⟩⟩).lo).e, .i ((negI ⟨a0, ⟨a1, a2, a3, a4⟩, ⟨a5, a6, a7, a8⟩⟩).hi).k, .b ((negI ⟨a0, ⟨a1, a2, a3, a4⟩, ⟨a5, a6, a7, a8⟩⟩).hi).n, .u ((negI ⟨a0, ⟨a1, a2, a3, a4⟩, ⟨a5, a6, a7, a8⟩⟩).hi).m, .i ((negI ⟨a0, ⟨a1, a2, a3, a4⟩, ⟨a5, a6, a7, a8⟩⟩).hi).e]) ∧ Below w.heap.size w w' := by
 have HO := (fun W h => opnone_calls (some ⟨w.heap.size + 1 + 1, 0, none⟩) 1 1 [⟨a0, ⟨a1, a2, a3, a4⟩, ⟨a5, a6, a7, a8⟩⟩] W h (by omega))
 have hq : emptyB [⟨a0, ⟨a1, a2, a3, a4⟩, ⟨a5, a6, a7, a8⟩⟩] = noneB ⟨a0, ⟨a1, a2, a3, a4⟩, ⟨a5, a6, a7, a8⟩⟩ := by unfold emptyB; simp
 rw [hq] at HO
 unfold negI
 have BX : Blk _ w.heap.size 34 #[.b a0, .i a1, .b a2, .u a3, .i a4, .i a5, .b a6, .u a7, .i a8] := (Blk.new w _ _).alloc (.cells #[.b false, .i 0, .b false, .u 0, .i 0, .i 0, .b false, .u 0, .i 0] 34)
 have BR : Blk _ (w.heap.size + 1) 34 #[.b false, .i 0, .b false, .u 0, .i 0, .i 0, .b false, .u 0, .i 0] := Blk.new1 w (.cells #[.b a0, .i a1, .b a2, .u a3, .i a4, .i a5, .b a6, .u a7, .i a8] 34) _ _
 have HBd := (bl_alloc (bl_alloc (Below.refl w.heap.size w) (.cells #[.b a0, .i a1, .b a2, .u a3, .i a4, .i a5, .b a6, .u a7, .i a8] 34)) (.cells #[.b false, .i 0, .b false, .u 0, .i 0, .i 0, .b false, .u 0, .i 0] 34))
 have BL : Blk _ (w.heap.size + 1 + 1) 34 #[.b a0, .i a1, .b a2, .u a3, .i a4, .i a5, .b a6, .u a7, .i a8] := Blk.new2 w (.cells #[.b a0, .i a1, .b a2, .u a3, .i a4, .i a5, .b a6, .u a7, .i a8] 34) (.cells #[.b false, .i 0, .b false, .u 0, .i 0, .i 0, .b false, .u 0, .i 0] 34) _ _
 replace BX := BX.alloc (.cells #[.b a0, .i a1, .b a2, .u a3, .i a4, .i a5, .b a6, .u a7, .i a8] 34)
 replace BR := BR.alloc (.cells #[.b a0, .i a1, .b a2, .u a3, .i a4, .i a5, .b a6, .u a7, .i a8] 34)
 replace HBd := bl_alloc HBd (.cells #[.b a0, .i a1, .b a2, .u a3, .i a4, .i a5, .b a6, .u a7, .i a8] 34)
 cases hc : noneB ⟨a0, ⟨a1, a2, a3, a4⟩, ⟨a5, a6, a7, a8⟩⟩
 ·rw [hc] at HO
  replace HO := Lib.hid HO
  have HN1 := Lib.hid (fun W => negN_calls a5 a6 a7 a8 W)
  have HN2 := Lib.hid (fun W => negN_calls a1 a2 a3 a4 W)
  rw [if_neg (by decide)]
  dsimp only
  generalize negN ⟨a5, a6, a7, a8⟩ = h at HN1 ⊢
  generalize negN ⟨a1, a2, a3, a4⟩ = l at HN2 ⊢
  obtain ⟨h0, h1, h2, h3⟩ := h
  obtain ⟨l0, l1, l2, l3⟩ := l
  have HM := Lib.hid (fun W => makeI_calls h0 h1 h2 h3 l0 l1 l2 l3 W)
  generalize makeI ⟨h0, h1, h2, h3⟩ ⟨l0, l1, l2, l3⟩ = p at HM ⊢
  obtain ⟨p0, ⟨p1, p2, p3, p4⟩, ⟨p5, p6, p7, p8⟩⟩ := p
  dsimp only at HN1 HN2 HM ⊢
  go_enter Tryz.func88, Tryz.ntmps88
  go_wp2_with (go_at_call 99; (with_reducible refine (HO.out _ (SlI.one BL (by simp))).mono ?_); rintro e' w2 ⟨rfl, hb⟩; replace BX := BX.call hb; replace BR := BR.call hb; replace HBd := bl_trans HBd hb; clear hb BL)
  replace BX := BX.drew
  replace BR := BR.drew
  replace HBd := bl_drew HBd
  refine start_ (n := 8) (S := fun w' => w'.cell? ⟨w.heap.size, 0, none⟩ = some (.b a0) ∧ w'.cell? ⟨w.heap.size, 1, none⟩ = some (.i a1) ∧ w'.cell? ⟨w.heap.size, 2, none⟩ = some (.b a2) ∧ w'.cell? ⟨w.heap.size, 3, none⟩ = some (.u a3) ∧ w'.cell? ⟨w.heap.size, 4, none⟩ = some (.i a4) ∧ w'.cell? ⟨w.heap.size, 5, none⟩ = some (.i a5) ∧ w'.cell? ⟨w.heap.size, 6, none⟩ = some (.b a6) ∧ w'.cell? ⟨w.heap.size, 7, none⟩ = some (.u a7) ∧ w'.cell? ⟨w.heap.size, 8, none⟩ = some (.i a8)) (ds := [7]) (bq 8 0) (by kernel_rfl) rfl rfl ⟨BX.cell 0, BX.cell 1, BX.cell 2, BX.cell 3, BX.cell 4, BX.cell 5, BX.cell 6, BX.cell 7, BX.cell 8⟩ (fun hHeld => ?_)
  refine pu 0 7 (bq 8 1) ?_ ?_ (fun _ => ?_) ?_ ?_
  rotate_left 2
  ·go_simp
   with_reducible rfl
  ·simp only [Act.put, pA, pB, pC]
   rfl
  refine tk 1 8 (bq 8 3) ?_ ?_ ?_ ?_ hHeld ?_
  rotate_left 2
  ·rintro w' ⟨s0_, s1_, s2_, s3_, s4_, s5_, s6_, s7_, s8_⟩
   go_simp
   with_reducible rfl
  ·simp only [Act.put, pA, pB, pC]
   rfl
  refine pu 3 10 (bq 8 11) ?_ ?_ (fun _ => ?_) ?_ ?_
  rotate_left 2
  ·go_simp
   with_reducible rfl
  ·simp only [Act.put, pA, pB, pC]
   rfl
  refine tk 4 11 (bq 8 27) ?_ ?_ ?_ ?_ hHeld ?_
  rotate_left 2
  ·rintro w' ⟨s0_, s1_, s2_, s3_, s4_, s5_, s6_, s7_, s8_⟩
   go_simp
   with_reducible rfl
  ·simp only [Act.put, pA, pB, pC]
   rfl
  refine on 2 9 (bq 8 31) (fun K hK => ?_)
  refine goes_ Tryz.func30 (by kernel_rfl) rfl #[.agg #[.i a5, .b a6, .u a7, .i a8]] (by first | rfl | go_simp) rfl rfl (by simp only [List.map_toArray, List.map_cons, List.map_nil] <;> rfl) ?_
  with_reducible refine (HN1.out _).mono ?_
  rintro e w4 ⟨rfl, hb⟩
  refine ⟨_, rfl, ?_⟩
  replace BX := BX.call hb
  replace BR := BR.call hb
  replace HBd := bl_trans HBd hb
  refine hK.out _ _ ⟨BX.cell 0, BX.cell 1, BX.cell 2, BX.cell 3, BX.cell 4, BX.cell 5, BX.cell 6, BX.cell 7, BX.cell 8⟩ (fun hHeld => ?_)
  clear hK K hb
  refine norm_ (a' := ?_) ?_ ?_
  rotate_left
  ·show Act.put _ (some 9) _ = _
   simp only [Act.put, pA, pB, pC]
   rfl
  refine on 5 12 (bq 8 63) (fun K hK => ?_)
  refine goes_ Tryz.func30 (by kernel_rfl) rfl #[.agg #[.i a1, .b a2, .u a3, .i a4]] (by first | rfl | go_simp) rfl rfl (by simp only [List.map_toArray, List.map_cons, List.map_nil] <;> rfl) ?_
  with_reducible refine (HN2.out _).mono ?_
  rintro e w5 ⟨rfl, hb⟩
  refine ⟨_, rfl, ?_⟩
  replace BX := BX.call hb
  replace BR := BR.call hb
  replace HBd := bl_trans HBd hb
  refine hK.out _ _ ⟨BX.cell 0, BX.cell 1, BX.cell 2, BX.cell 3, BX.cell 4, BX.cell 5, BX.cell 6, BX.cell 7, BX.cell 8⟩ (fun hHeld => ?_)
  clear hK K hb
  refine norm_ (a' := ?_) ?_ ?_
  rotate_left
  ·show Act.put _ (some 12) _ = _
   simp only [Act.put, pA, pB, pC]
   rfl
  refine on 6 13 (bq 8 127) (fun K hK => ?_)
  refine goes_ Tryz.func16 (by kernel_rfl) rfl #[.agg #[.i h0, .b h1, .u h2, .i h3], .agg #[.i l0, .b l1, .u l2, .i l3]] (by first | rfl | go_simp) rfl rfl (by simp only [List.map_toArray, List.map_cons, List.map_nil] <;> rfl) ?_
  with_reducible refine (HM.out _).mono ?_
  rintro e w6 ⟨rfl, hb⟩
  refine ⟨_, rfl, ?_⟩
  replace BX := BX.call hb
  replace BR := BR.call hb
  replace HBd := bl_trans HBd hb
  refine hK.out _ _ ⟨BX.cell 0, BX.cell 1, BX.cell 2, BX.cell 3, BX.cell 4, BX.cell 5, BX.cell 6, BX.cell 7, BX.cell 8⟩ (fun hHeld => ?_)
  clear hK K hb
  refine norm_ (a' := ?_) ?_ ?_
  rotate_left
  ·show Act.put _ (some 13) _ = _
   simp only [Act.put, pA, pB, pC]
   rfl
  obtain ⟨⟨z0, z1, z2, z3, z4, z5, z6, z7, z8⟩, ⟨k0, k1, k2, k3, k4, k5, k6, k7, k8⟩⟩ := BR.c9
  obtain ⟨W9, hW9, B9, hK9, hL9, _⟩ := put9 BR (.b p0) (.i p1) (.b p2) (.u p3) (.i p4) (.i p5) (.b p6) (.u p7) (.i p8)
  have HB9 := hL9 w HBd (by omega)
  refine last_ (i := 7) (N := none) (bq 8 255) rfl rfl (by kernel_rfl) (by decide) (fun K hK => ?_)
  refine skip_ (w1 := ?_) (by rfl) rfl ?_ ?_
  rotate_left
  ·go_simp
   rfl
  refine hK.out _ _ ?_
  clear hK K
  refine done_ (by kernel_rfl) ?_
  clear hHeld BX HBd BR
  clear z0 z1 z2 z3 z4 z5 z6 z7 z8 k0 k1 k2 k3 k4 k5 k6 k7 k8 hK9 hL9
  go_wp2
  exact bodyPost_ret (results_cell_row rfl _ _ (w.heap.size + 1) 34 _ (0, 0) _ rfl B9 Tryz.underlying34 rfl (by kernel_rfl)) rfl ⟨rfl, HB9⟩
 ·rw [hc] at HO
  replace HO := Lib.hid HO
  rw [if_pos rfl]
  have HN := none_lit9
  go_enter Tryz.func88, Tryz.ntmps88
  go_wp2_with (first
   | (go_at_call 99; (with_reducible refine (HO.out _ (SlI.one BL (by simp))).mono ?_); rintro e' w2 ⟨rfl, hb⟩; replace BR := BR.call hb; replace HBd := bl_trans HBd hb; clear hb BL BX)
   | (go_at_call 35; (with_reducible refine (HN _).mono ?_); rintro e' w3 ⟨rfl, hb⟩; replace BR := BR.call hb; replace HBd := bl_trans HBd hb; clear hb)
   | (refine wpList_stG rfl 34 (.tmp 2) (.tmp 6) rfl (w.heap.size + 1) _ #[.b true, .i 0, .b false, .u 0, .i 0, .i 0, .b false, .u 0, .i 0] BR rfl rfl (by kernel_rfl) rfl (by simp [Value.oneCell']) ?_; intro W9 B9 P9; have HB9 := P9.bel HBd (by omega)))
  exact bodyPost_ret (results_cell_row rfl _ _ (w.heap.size + 1) 34 _ (0, 0) _ rfl B9 Tryz.underlying34 rfl (by kernel_rfl)) rfl ⟨rfl, HB9⟩
end Go.Proofs.YteabdeohhmbclaaGreat.Wk
namespace Go.Proofs.YteabdeohhmbclaaGreat.Wk
open Go.RowKit Go.Proofs.Pl Go.Proofs.YteabdeohhmbclaaGreatW.PrintLast
set_option linter.unusedSimpArgs false
set_option linter.unusedVariables false

set_option maxRecDepth 100000 in
set_option maxHeartbeats 8000000 in
theorem opadd_calls (A : Option Addr) (c : Nat) (x0 : Bool) (x1 : Int) (x2 : Bool) (x3 x4 x5 : Int) (x6 : Bool) (x7 x8 : Int) (y0 : Bool) (y1 : Int) (y2 : Bool) (y3 y4 y5 : Int) (y6 : Bool) (y7 y8 : Int) (w : World) (hs : SlI w w.heap.size A 2 [⟨x0, ⟨x1, x2, x3, x4⟩, ⟨x5, x6, x7, x8⟩⟩, ⟨y0, ⟨y1, y2, y3, y4⟩, ⟨y5, y6, y7, y8⟩⟩]) (wx : WfIv ⟨x0, ⟨x1, x2, x3, x4⟩, ⟨x5, x6, x7, x8⟩⟩) (wy : WfIv ⟨y0, ⟨y1, y2, y3, y4⟩, ⟨y5, y6, y7, y8⟩⟩) :
  Calls Tryz.prog 87 #[.slice A 2 c] w fun e w' => e = .returned (.agg #[.b (addI2 ⟨x0, ⟨x1, x2, x3, x4⟩, ⟨x5, x6, x7, x8⟩⟩ ⟨y0, ⟨y1, y2, y3, y4⟩, ⟨y5, y6, y7, y8⟩⟩).emp, .i ((addI2 ⟨x0, ⟨x1, x2, x3, x4⟩, ⟨x5, x6, x7, x8⟩⟩ ⟨y0, ⟨y1, y2, y3, y4⟩, ⟨y5, y6, y7, y8⟩⟩).lo).k, .b ((addI2 ⟨x0, ⟨x1, x2, x3, x4⟩, ⟨x5, x6, x7, x8⟩⟩ ⟨y0, ⟨y1, y2, y3, y4⟩, ⟨y5, y6, y7, y8⟩⟩).lo).n, .u ((addI2 ⟨x0, ⟨x1, x2, x3, x4⟩, ⟨x5, x6, x7, x8⟩⟩ ⟨y0, ⟨y1, y2, y3, y4⟩, ⟨y5, y6, y7, y8⟩⟩).lo).m, .i ((addI2 ⟨x0, ⟨x1, x2, x3, x4⟩, ⟨x5, x6, x7, x8⟩⟩ ⟨y0, ⟨y1, y2, y3, y4⟩, ⟨y5, y6, y7, y8⟩⟩).lo).e, .i ((addI2 ⟨x0, ⟨x1, x2, x3, x4⟩, ⟨x5, x6, x7, x8⟩⟩ ⟨y0, ⟨y1, y2, y3, y4⟩, ⟨y5, y6, y7, y8⟩⟩).hi).k, .b ((addI2 ⟨x0, ⟨x1, x2, x3, x4⟩, ⟨x5, x6, x7, x8⟩⟩ ⟨y0, ⟨y1, y2, y3, y4⟩, ⟨y5, y6, y7, y8⟩⟩).hi).n, .u ((addI2 ⟨x0, ⟨x1, x2, x3, x4⟩, ⟨x5, x6, x7, x8⟩⟩ ⟨y0, ⟨y1, y2, y3, y4⟩, ⟨y5, y6, y7, y8⟩⟩).hi).m, .i ((addI2 ⟨x0, ⟨x1, x2, x3, x4⟩, ⟨x5, x6, x7, x8⟩⟩ ⟨y0, ⟨y1, y2, y3, y4⟩, ⟨y5, y6, y7, y8⟩⟩).hi).e]) ∧ Below w.heap.size w w' := by
 have HO := (fun W h => opnone_calls A 2 c [⟨x0, ⟨x1, x2, x3, x4⟩, ⟨x5, x6, x7, x8⟩⟩, ⟨y0, ⟨y1, y2, y3, y4⟩, ⟨y5, y6, y7, y8⟩⟩] W h (by omega))
 have hq : emptyB [⟨x0, ⟨x1, x2, x3, x4⟩, ⟨x5, x6, x7, x8⟩⟩, ⟨y0, ⟨y1, y2, y3, y4⟩, ⟨y5, y6, y7, y8⟩⟩] = (noneB ⟨x0, ⟨x1, x2, x3, x4⟩, ⟨x5, x6, x7, x8⟩⟩ || noneB ⟨y0, ⟨y1, y2, y3, y4⟩, ⟨y5, y6, y7, y8⟩⟩) := by unfold emptyB; simp
 rw [hq] at HO
 unfold addI2
 have BR : Blk _ w.heap.size 34 #[.b false, .i 0, .b false, .u 0, .i 0, .i 0, .b false, .u 0, .i 0] := Blk.new w _ _
 have HBd := (bl_alloc (Below.refl w.heap.size w) (.cells #[.b false, .i 0, .b false, .u 0, .i 0, .i 0, .b false, .u 0, .i 0] 34))
 cases hc : (noneB ⟨x0, ⟨x1, x2, x3, x4⟩, ⟨x5, x6, x7, x8⟩⟩ || noneB ⟨y0, ⟨y1, y2, y3, y4⟩, ⟨y5, y6, y7, y8⟩⟩)
 ·rw [hc] at HO
  replace HO := Lib.hid HO
  have HA1 := Lib.hid (fun W => addN_calls ⟨x1, x2, x3, x4⟩ ⟨y1, y2, y3, y4⟩ wx.1 wy.1 false W)
  have HA2 := Lib.hid (fun W => addN_calls ⟨x5, x6, x7, x8⟩ ⟨y5, y6, y7, y8⟩ wx.2 wy.2 true W)
  rw [if_neg (by decide)]
  dsimp only at HA1 HA2 ⊢
  generalize addN ⟨x1, x2, x3, x4⟩ ⟨y1, y2, y3, y4⟩ false = s at HA1 ⊢
  generalize addN ⟨x5, x6, x7, x8⟩ ⟨y5, y6, y7, y8⟩ true = t at HA2 ⊢
  obtain ⟨s0, s1, s2, s3⟩ := s
  obtain ⟨t0, t1, t2, t3⟩ := t
  have HM := Lib.hid (fun W => makeI_calls s0 s1 s2 s3 t0 t1 t2 t3 W)
  generalize makeI ⟨s0, s1, s2, s3⟩ ⟨t0, t1, t2, t3⟩ = p at HM ⊢
  obtain ⟨p0, ⟨p1, p2, p3, p4⟩, ⟨p5, p6, p7, p8⟩⟩ := p
  dsimp only at HA1 HA2 HM ⊢
  obtain ⟨b, off, u, rfl, hbB, hu, e0, e1, e2, e3, e4, e5, e6, e7, e8⟩ := hs.at_ (k := 0) (by omega)
  obtain ⟨b', off', v, hbo, _, hv, f0, f1, f2, f3, f4, f5, f6, f7, f8⟩ := hs.at_ (k := 1) (by omega)
  cases hbo
  simp only [List.getElem?_cons_zero, List.getElem?_cons_succ, Option.some.injEq] at hu hv
  subst hu hv
  dsimp only at e0 e1 e2 e3 e4 e5 e6 e7 e8 f0 f1 f2 f3 f4 f5 f6 f7 f8
  replace hs := Lib.hid hs
  clear hc hq wx wy
  go_enter Tryz.func87, Tryz.ntmps87
  go_wp2_with (go_at_call 99; (with_reducible refine (HO.out _ (hs.out.on HBd)).mono ?_); rintro e' w1 ⟨rfl, hb⟩; replace BR := BR.call hb; replace HBd := bl_trans HBd hb; have hlr := BR.lt; clear hb)
  have BL : Blk (w1.alloc (.cells #[.i 0, .b false, .u 0, .i 0] 32)) w1.heap.size 32 #[.i 0, .b false, .u 0, .i 0] := Blk.new w1 _ _
  replace BL := BL.alloc (.cells #[.i 0, .b false, .u 0, .i 0] 32)
  have BH : Blk _ (w1.heap.size + 1) 32 #[.i 0, .b false, .u 0, .i 0] := Blk.new1 w1 (.cells #[.i 0, .b false, .u 0, .i 0] 32) _ _
  replace BR := (BR.alloc (.cells #[.i 0, .b false, .u 0, .i 0] 32)).alloc (.cells #[.i 0, .b false, .u 0, .i 0] 32)
  replace HBd := bl_alloc (bl_alloc HBd (.cells #[.i 0, .b false, .u 0, .i 0] 32)) (.cells #[.i 0, .b false, .u 0, .i 0] 32)
  generalize (w1.alloc (.cells #[.i 0, .b false, .u 0, .i 0] 32)).alloc (.cells #[.i 0, .b false, .u 0, .i 0] 32) = W1 at BL BH BR HBd ⊢
  generalize w1.heap.size = g at BL BH hlr ⊢
  simp only [Nat.zero_mul, Nat.add_zero] at e0 e1 e2 e3 e4 e5 e6 e7 e8
  simp only [Nat.one_mul] at f0 f1 f2 f3 f4 f5 f6 f7 f8
  have he : ∀ (W : World) (hB : Below w.heap.size w W), W.cell? ⟨b, off, none⟩ = some (.b x0) ∧ W.cell? ⟨b, off + 1, none⟩ = some (.i x1) ∧ W.cell? ⟨b, off + 2, none⟩ = some (.b x2) ∧ W.cell? ⟨b, off + 3, none⟩ = some (.u x3) ∧ W.cell? ⟨b, off + 4, none⟩ = some (.i x4) ∧ W.cell? ⟨b, off + 5, none⟩ = some (.i x5) ∧ W.cell? ⟨b, off + 6, none⟩ = some (.b x6) ∧ W.cell? ⟨b, off + 7, none⟩ = some (.u x7) ∧ W.cell? ⟨b, off + 8, none⟩ = some (.i x8) := fun W hB => ⟨(hB.cell (p := ⟨b, _, none⟩) hbB).trans e0, (hB.cell (p := ⟨b, _, none⟩) hbB).trans e1, (hB.cell (p := ⟨b, _, none⟩) hbB).trans e2, (hB.cell (p := ⟨b, _, none⟩) hbB).trans e3, (hB.cell (p := ⟨b, _, none⟩) hbB).trans e4, (hB.cell (p := ⟨b, _, none⟩) hbB).trans e5, (hB.cell (p := ⟨b, _, none⟩) hbB).trans e6, (hB.cell (p := ⟨b, _, none⟩) hbB).trans e7, (hB.cell (p := ⟨b, _, none⟩) hbB).trans e8⟩
  have hf : ∀ (W : World) (hB : Below w.heap.size w W), W.cell? ⟨b, off + 9, none⟩ = some (.b y0) ∧ W.cell? ⟨b, off + 9 + 1, none⟩ = some (.i y1) ∧ W.cell? ⟨b, off + 9 + 2, none⟩ = some (.b y2) ∧ W.cell? ⟨b, off + 9 + 3, none⟩ = some (.u y3) ∧ W.cell? ⟨b, off + 9 + 4, none⟩ = some (.i y4) ∧ W.cell? ⟨b, off + 9 + 5, none⟩ = some (.i y5) ∧ W.cell? ⟨b, off + 9 + 6, none⟩ = some (.b y6) ∧ W.cell? ⟨b, off + 9 + 7, none⟩ = some (.u y7) ∧ W.cell? ⟨b, off + 9 + 8, none⟩ = some (.i y8) := fun W hB => ⟨(hB.cell (p := ⟨b, _, none⟩) hbB).trans f0, (hB.cell (p := ⟨b, _, none⟩) hbB).trans f1, (hB.cell (p := ⟨b, _, none⟩) hbB).trans f2, (hB.cell (p := ⟨b, _, none⟩) hbB).trans f3, (hB.cell (p := ⟨b, _, none⟩) hbB).trans f4, (hB.cell (p := ⟨b, _, none⟩) hbB).trans f5, (hB.cell (p := ⟨b, _, none⟩) hbB).trans f6, (hB.cell (p := ⟨b, _, none⟩) hbB).trans f7, (hB.cell (p := ⟨b, _, none⟩) hbB).trans f8⟩
  replace he := Lib.hid he
  replace hf := Lib.hid hf
  clear e0 e1 e2 e3 e4 e5 e6 e7 e8 f0 f1 f2 f3 f4 f5 f6 f7 f8
  go_loopw [5, 12] (fun _ i wr => ∃ k : Nat, ∃ L H : Num, k ≤ 2 ∧ i = .i k ∧ Blk wr g 32 #[.i L.k, .bool L.n, .u L.m, .i L.e] ∧ Blk wr (g + 1) 32 #[.i H.k, .bool H.n, .u H.m, .i H.e] ∧ ((k = 0) ∨ (k = 1 ∧ L = ⟨x1, x2, x3, x4⟩ ∧ H = ⟨x5, x6, x7, x8⟩) ∨ (k = 2 ∧ L = ⟨s0, s1, s2, s3⟩ ∧ H = ⟨t0, t1, t2, t3⟩)) ∧ Blk wr w.heap.size 34 #[.b false, .i 0, .b false, .u 0, .i 0, .i 0, .b false, .u 0, .i 0] ∧ Below w.heap.size w wr) (fun _ i _ => 2 - (intOf i).toNat)
  case atStart => exact ⟨0, zero, zero, by omega, rfl, BL, BH, .inl rfl, BR, HBd⟩
  case round =>
   obtain ⟨k, L, H, hk, rfl, BL, BH, hst, BR, HBd⟩ := hrel
   have hb0 : b < wr.heap.size := Nat.lt_of_lt_of_le hbB HBd.size
   rcases hst with rfl | ⟨rfl, rfl, rfl⟩ | ⟨rfl, rfl, rfl⟩
   ·obtain ⟨e0, e1, e2, e3, e4, e5, e6, e7, e8⟩ := he.out wr HBd
    obtain ⟨L0, L1, L2, L3⟩ := L
    obtain ⟨H0, H1, H2, H3⟩ := H
    dsimp only at BL BH
    go_wp2_with (refine wpList_stG rfl 34 (.tmp 6) (.tmp 16) rfl wr.heap.size _ #[.b x0, .i x1, .b x2, .u x3, .i x4, .i x5, .b x6, .u x7, .i x8] (Blk.new wr _ _) rfl rfl (by kernel_rfl) rfl (by simp [Value.oneCell']) ?_; intro W2 BX P2; have g1 := BL.lt; have g2 := BH.lt; have g3 := BR.lt; replace BL := P2.blk (BL.alloc _) (by omega); replace BH := P2.blk (BH.alloc _) (by omega); replace BR := P2.blk (BR.alloc _) (by omega); replace HBd := P2.bel (bl_alloc HBd _) (by have := HBd.size; omega); have hsz := P2.size; clear P2; obtain ⟨⟨q0, q1, q2, q3, q4, q5, q6, q7, q8⟩, _⟩ := BX.c9)
    clear e0 e1 e2 e3 e4 e5 e6 e7 e8
    go_wp2_with fail
    replace BX := BX.drew
    replace BL := BL.drew
    replace BH := BH.drew
    replace BR := BR.drew
    replace HBd := bl_drew HBd
    clear q0 q1 q2 q3 q4 q5 q6 q7 q8
    refine start_ (n := 6) (S := fun w' => w'.cell? ⟨wr.heap.size, 0, none⟩ = some (.b x0) ∧ w'.cell? ⟨wr.heap.size, 1, none⟩ = some (.i x1) ∧ w'.cell? ⟨wr.heap.size, 2, none⟩ = some (.b x2) ∧ w'.cell? ⟨wr.heap.size, 3, none⟩ = some (.u x3) ∧ w'.cell? ⟨wr.heap.size, 4, none⟩ = some (.i x4) ∧ w'.cell? ⟨wr.heap.size, 5, none⟩ = some (.i x5) ∧ w'.cell? ⟨wr.heap.size, 6, none⟩ = some (.b x6) ∧ w'.cell? ⟨wr.heap.size, 7, none⟩ = some (.u x7) ∧ w'.cell? ⟨wr.heap.size, 8, none⟩ = some (.i x8)) (ds := [5]) (bq 6 0) (by kernel_rfl) rfl rfl ⟨BX.cell 0, BX.cell 1, BX.cell 2, BX.cell 3, BX.cell 4, BX.cell 5, BX.cell 6, BX.cell 7, BX.cell 8⟩ (fun hHeld => ?_)
    generalize W2.drew = W3 at BX BL BH BR HBd hHeld ⊢
    refine pu 0 19 (bq 6 1) ?_ ?_ (fun _ => ?_) ?_ ?_
    rotate_left 2
    ·go_simp
     with_reducible rfl
    ·simp only [Act.put, pA, pB, pC]
     rfl
    refine tk 1 20 (bq 6 3) ?_ ?_ ?_ ?_ hHeld ?_
    rotate_left 2
    ·rintro w' ⟨s0_, s1_, s2_, s3_, s4_, s5_, s6_, s7_, s8_⟩
     go_simp
     with_reducible rfl
    ·simp only [Act.put, pA, pB, pC]
     rfl
    refine pu 2 21 (bq 6 7) ?_ ?_ (fun _ => ?_) ?_ ?_
    rotate_left 2
    ·go_simp
     with_reducible rfl
    ·simp only [Act.put, pA, pB, pC]
     rfl
    refine tk 3 22 (bq 6 15) ?_ ?_ ?_ ?_ hHeld ?_
    rotate_left 2
    ·rintro w' ⟨s0_, s1_, s2_, s3_, s4_, s5_, s6_, s7_, s8_⟩
     go_simp
     with_reducible rfl
    ·simp only [Act.put, pA, pB, pC]
     rfl
    obtain ⟨⟨z0, z1, z2, z3⟩, ⟨k0, k1, k2, k3⟩⟩ := BL.c4
    have gx := BX.lt
    have gl := BR.lt
    obtain ⟨_, rfl, L9, hK9, hL9, hS9⟩ := put4 BL (.i x1) (.b x2) (.u x3) (.i x4)
    have H9 := hK9 _ _ _ (by omega) BH
    have R9 := hK9 _ _ _ (by omega) BR
    replace BX := hK9 _ _ _ (by omega) BX
    have HB9 := hL9 w HBd (by omega)
    refine one_ (i := 4) (N := none) (bq 6 31) rfl rfl (by kernel_rfl) (by decide) (fun K hK => ?_)
    refine skip_ (w1 := ?_) (by rfl) rfl ?_ ?_
    rotate_left
    ·go_simp
     rfl
    refine hK.out _ _ ⟨BX.cell 0, BX.cell 1, BX.cell 2, BX.cell 3, BX.cell 4, BX.cell 5, BX.cell 6, BX.cell 7, BX.cell 8⟩ (fun hHeld => ?_)
    clear hK K
    clear z0 z1 z2 z3 k0 k1 k2 k3 hK9 hL9
    obtain ⟨⟨z0, z1, z2, z3⟩, ⟨k0, k1, k2, k3⟩⟩ := H9.c4
    obtain ⟨W10, hW10, H10, hK10, hL10, hS10⟩ := put4 H9 (.i x5) (.b x6) (.u x7) (.i x8)
    have L10 := hK10 _ _ _ (by omega) L9
    have R10 := hK10 _ _ _ (by omega) R9
    have HB10 := hL10 w HB9 (by omega)
    refine last_ (i := 5) (N := none) (bq 6 63) rfl rfl (by kernel_rfl) (by decide) (fun K hK => ?_)
    refine skip_ (w1 := ?_) (by rfl) rfl ?_ ?_
    rotate_left
    ·go_simp
     rfl
    refine hK.out _ _ ?_
    clear hK K
    refine done_ (by kernel_rfl) ?_
    clear hHeld BX BL BH BR HBd R9 L9 H9 HB9
    try rw [hW10]
    clear z0 z1 z2 z3 k0 k1 k2 k3 hW10 hK10 hL10
    go_wp2_with fail
    go_roundw
    case rel => exact ⟨1, ⟨x1, x2, x3, x4⟩, ⟨x5, x6, x7, x8⟩, by omega, by go_num, L10, H10, .inr (.inl ⟨rfl, rfl, rfl⟩), R10, HB10⟩
    case measure => simp [intOf]
   ·obtain ⟨e0, e1, e2, e3, e4, e5, e6, e7, e8⟩ := hf.out wr HBd
    dsimp only at BL BH
    rw [show (((1 : Nat) : Int)) = 1 from rfl]
    have e15 : off + 1 * 9 = off + 9 := rfl
    go_wp2_with (refine wpList_stG rfl 34 (.tmp 6) (.tmp 16) rfl wr.heap.size _ #[.b y0, .i y1, .b y2, .u y3, .i y4, .i y5, .b y6, .u y7, .i y8] (Blk.new wr _ _) rfl rfl (by kernel_rfl) rfl (by simp [Value.oneCell']) ?_; intro W2 BX P2; have g1 := BL.lt; have g2 := BH.lt; have g3 := BR.lt; replace BL := P2.blk (BL.alloc _) (by omega); replace BH := P2.blk (BH.alloc _) (by omega); replace BR := P2.blk (BR.alloc _) (by omega); replace HBd := P2.bel (bl_alloc HBd _) (by have := HBd.size; omega); have hsz := P2.size; clear P2; obtain ⟨⟨q0, q1, q2, q3, q4, q5, q6, q7, q8⟩, _⟩ := BX.c9)
    clear e0 e1 e2 e3 e4 e5 e6 e7 e8
    go_wp2_with fail
    replace BX := BX.drew
    replace BL := BL.drew
    replace BH := BH.drew
    replace BR := BR.drew
    replace HBd := bl_drew HBd
    clear q0 q1 q2 q3 q4 q5 q6 q7 q8
    refine start_ (n := 10) (S := fun w' => w'.cell? ⟨wr.heap.size, 0, none⟩ = some (.b y0) ∧ w'.cell? ⟨wr.heap.size, 1, none⟩ = some (.i y1) ∧ w'.cell? ⟨wr.heap.size, 2, none⟩ = some (.b y2) ∧ w'.cell? ⟨wr.heap.size, 3, none⟩ = some (.u y3) ∧ w'.cell? ⟨wr.heap.size, 4, none⟩ = some (.i y4) ∧ w'.cell? ⟨wr.heap.size, 5, none⟩ = some (.i y5) ∧ w'.cell? ⟨wr.heap.size, 6, none⟩ = some (.b y6) ∧ w'.cell? ⟨wr.heap.size, 7, none⟩ = some (.u y7) ∧ w'.cell? ⟨wr.heap.size, 8, none⟩ = some (.i y8) ∧ w'.cell? ⟨g, 0, none⟩ = some (.i x1) ∧ w'.cell? ⟨g, 1, none⟩ = some (.b x2) ∧ w'.cell? ⟨g, 2, none⟩ = some (.u x3) ∧ w'.cell? ⟨g, 3, none⟩ = some (.i x4) ∧ w'.cell? ⟨g + 1, 0, none⟩ = some (.i x5) ∧ w'.cell? ⟨g + 1, 1, none⟩ = some (.b x6) ∧ w'.cell? ⟨g + 1, 2, none⟩ = some (.u x7) ∧ w'.cell? ⟨g + 1, 3, none⟩ = some (.i x8)) (ds := [8,9]) (bq 10 0) (by kernel_rfl) rfl rfl ⟨BX.cell 0, BX.cell 1, BX.cell 2, BX.cell 3, BX.cell 4, BX.cell 5, BX.cell 6, BX.cell 7, BX.cell 8, BL.cell 0, BL.cell 1, BL.cell 2, BL.cell 3, BH.cell 0, BH.cell 1, BH.cell 2, BH.cell 3⟩ (fun hHeld => ?_)
    generalize W2.drew = W3 at BX BL BH BR HBd hHeld ⊢
    refine tk 0 23 (bq 10 1) ?_ ?_ ?_ ?_ hHeld ?_
    rotate_left 2
    ·rintro w' ⟨s0_, s1_, s2_, s3_, s4_, s5_, s6_, s7_, s8_, s9_, s10_, s11_, s12_, s13_, s14_, s15_, s16_⟩
     go_simp
     with_reducible rfl
    ·simp only [Act.put, pA, pB, pC]
     rfl
    refine pu 1 24 (bq 10 3) ?_ ?_ (fun _ => ?_) ?_ ?_
    rotate_left 2
    ·go_simp
     with_reducible rfl
    ·simp only [Act.put, pA, pB, pC]
     rfl
    refine tk 2 25 (bq 10 7) ?_ ?_ ?_ ?_ hHeld ?_
    rotate_left 2
    ·rintro w' ⟨s0_, s1_, s2_, s3_, s4_, s5_, s6_, s7_, s8_, s9_, s10_, s11_, s12_, s13_, s14_, s15_, s16_⟩
     go_simp
     with_reducible rfl
    ·simp only [Act.put, pA, pB, pC]
     rfl
    refine tk 4 27 (bq 10 23) ?_ ?_ ?_ ?_ hHeld ?_
    rotate_left 2
    ·rintro w' ⟨s0_, s1_, s2_, s3_, s4_, s5_, s6_, s7_, s8_, s9_, s10_, s11_, s12_, s13_, s14_, s15_, s16_⟩
     go_simp
     with_reducible rfl
    ·simp only [Act.put, pA, pB, pC]
     rfl
    refine pu 5 28 (bq 10 55) ?_ ?_ (fun _ => ?_) ?_ ?_
    rotate_left 2
    ·go_simp
     with_reducible rfl
    ·simp only [Act.put, pA, pB, pC]
     rfl
    refine tk 6 29 (bq 10 119) ?_ ?_ ?_ ?_ hHeld ?_
    rotate_left 2
    ·rintro w' ⟨s0_, s1_, s2_, s3_, s4_, s5_, s6_, s7_, s8_, s9_, s10_, s11_, s12_, s13_, s14_, s15_, s16_⟩
     go_simp
     with_reducible rfl
    ·simp only [Act.put, pA, pB, pC]
     rfl
    refine on 3 26 (bq 10 127) (fun K hK => ?_)
    refine goes_ Tryz.func74 (by kernel_rfl) rfl #[.agg #[.i x1, .b x2, .u x3, .i x4], .agg #[.i y1, .b y2, .u y3, .i y4], .b false] (by first | rfl | go_simp) rfl rfl (by simp only [List.map_toArray, List.map_cons, List.map_nil] <;> rfl) ?_
    with_reducible refine (HA1.out _).mono ?_
    rintro e w6 ⟨rfl, hb⟩
    refine ⟨_, rfl, ?_⟩
    replace BX := BX.call hb
    replace BL := BL.call hb
    replace BH := BH.call hb
    replace BR := BR.call hb
    replace HBd := bl_trans HBd hb
    refine hK.out _ _ ⟨BX.cell 0, BX.cell 1, BX.cell 2, BX.cell 3, BX.cell 4, BX.cell 5, BX.cell 6, BX.cell 7, BX.cell 8, BL.cell 0, BL.cell 1, BL.cell 2, BL.cell 3, BH.cell 0, BH.cell 1, BH.cell 2, BH.cell 3⟩ (fun hHeld => ?_)
    clear hK K hb
    refine norm_ (a' := ?_) ?_ ?_
    rotate_left
    ·show Act.put _ (some 26) _ = _
     simp only [Act.put, pA, pB, pC]
     rfl
    refine on 7 30 (bq 10 255) (fun K hK => ?_)
    refine goes_ Tryz.func74 (by kernel_rfl) rfl #[.agg #[.i x5, .b x6, .u x7, .i x8], .agg #[.i y5, .b y6, .u y7, .i y8], .b true] (by first | rfl | go_simp) rfl rfl (by simp only [List.map_toArray, List.map_cons, List.map_nil] <;> rfl) ?_
    with_reducible refine (HA2.out _).mono ?_
    rintro e w7 ⟨rfl, hb⟩
    refine ⟨_, rfl, ?_⟩
    replace BX := BX.call hb
    replace BL := BL.call hb
    replace BH := BH.call hb
    replace BR := BR.call hb
    replace HBd := bl_trans HBd hb
    refine hK.out _ _ ⟨BX.cell 0, BX.cell 1, BX.cell 2, BX.cell 3, BX.cell 4, BX.cell 5, BX.cell 6, BX.cell 7, BX.cell 8, BL.cell 0, BL.cell 1, BL.cell 2, BL.cell 3, BH.cell 0, BH.cell 1, BH.cell 2, BH.cell 3⟩ (fun hHeld => ?_)
    clear hK K hb
    refine norm_ (a' := ?_) ?_ ?_
    rotate_left
    ·show Act.put _ (some 30) _ = _
     simp only [Act.put, pA, pB, pC]
     rfl
    obtain ⟨⟨z0, z1, z2, z3⟩, ⟨k0, k1, k2, k3⟩⟩ := BL.c4
    obtain ⟨W9, hW9, L9, hK9, hL9, hS9⟩ := put4 BL (.i s0) (.b s1) (.u s2) (.i s3)
    have H9 := hK9 _ _ _ (by omega) BH
    have R9 := hK9 _ _ _ (by omega) BR
    have HB9 := hL9 w HBd (by omega)
    refine last_ (i := 8) (N := none) (bq 10 511) rfl rfl (by kernel_rfl) (by decide) (fun K hK => ?_)
    refine skip_ (w1 := ?_) (by rfl) rfl ?_ ?_
    rotate_left
    ·go_simp
     rfl
    refine hK.out _ _ ?_
    clear hK K
    try rw [hW9]
    clear z0 z1 z2 z3 k0 k1 k2 k3 hW9 hK9 hL9
    obtain ⟨⟨z0, z1, z2, z3⟩, ⟨k0, k1, k2, k3⟩⟩ := H9.c4
    obtain ⟨W10, hW10, H10, hK10, hL10, hS10⟩ := put4 H9 (.i t0) (.b t1) (.u t2) (.i t3)
    have L10 := hK10 _ _ _ (by omega) L9
    have R10 := hK10 _ _ _ (by omega) R9
    have HB10 := hL10 w HB9 (by omega)
    refine last_ (i := 9) (N := none) (bq 10 1023) rfl rfl (by kernel_rfl) (by decide) (fun K hK => ?_)
    refine skip_ (w1 := ?_) (by rfl) rfl ?_ ?_
    rotate_left
    ·go_simp
     rfl
    refine hK.out _ _ ?_
    clear hK K
    refine done_ (by kernel_rfl) ?_
    clear hHeld BX BL BH BR HBd R9 L9 H9 HB9
    try rw [hW10]
    clear z0 z1 z2 z3 k0 k1 k2 k3 hW10 hK10 hL10
    go_wp2_with fail
    go_roundw
    case rel => exact ⟨2, ⟨s0, s1, s2, s3⟩, ⟨t0, t1, t2, t3⟩, by omega, by go_num, L10, H10, .inr (.inr ⟨rfl, rfl, rfl⟩), R10, HB10⟩
    case measure => simp [intOf]
   ·dsimp only at BL BH
    rw [show (((2 : Nat) : Int)) = 2 from rfl]
    obtain ⟨⟨l0, l1, l2, l3⟩, _⟩ := BL.c4
    obtain ⟨⟨m0, m1, m2, m3⟩, _⟩ := BH.c4
    go_wp2_with (first
     | (go_at_call 16; (with_reducible refine (HM.out _).mono ?_); rintro e' w8 ⟨rfl, hb⟩; replace BR := BR.call hb; replace HBd := bl_trans HBd hb; clear hb l0 l1 l2 l3 m0 m1 m2 m3)
     | (refine wpList_stG rfl 34 (.tmp 2) (.tmp 34) rfl w.heap.size _ #[.b p0, .i p1, .b p2, .u p3, .i p4, .i p5, .b p6, .u p7, .i p8] BR rfl rfl (by kernel_rfl) rfl (by simp [Value.oneCell']) ?_; intro W9 B9 P9; have HB9 := P9.bel HBd (by omega)))
    exact bodyPost_ret (results_cell_row rfl _ _ w.heap.size 34 _ (0, 0) _ rfl B9 Tryz.underlying34 rfl (by kernel_rfl)) rfl ⟨rfl, HB9⟩
 ·rw [hc] at HO
  replace HO := Lib.hid HO
  rw [if_pos rfl]
  have HN := none_lit9
  replace hs := Lib.hid hs
  go_enter Tryz.func87, Tryz.ntmps87
  go_wp2_with (first
   | (go_at_call 99; (with_reducible refine (HO.out _ (hs.out.on HBd)).mono ?_); rintro e' w2 ⟨rfl, hb⟩; replace BR := BR.call hb; replace HBd := bl_trans HBd hb; clear hb)
   | (go_at_call 35; (with_reducible refine (HN _).mono ?_); rintro e' w3 ⟨rfl, hb⟩; replace BR := BR.call hb; replace HBd := bl_trans HBd hb; clear hb)
   | (refine wpList_stG rfl 34 (.tmp 2) (.tmp 9) rfl w.heap.size _ #[.b true, .i 0, .b false, .u 0, .i 0, .i 0, .b false, .u 0, .i 0] BR rfl rfl (by kernel_rfl) rfl (by simp [Value.oneCell']) ?_; intro W9 B9 P9; have HB9 := P9.bel HBd (by omega)))
  exact bodyPost_ret (results_cell_row rfl _ _ w.heap.size 34 _ (0, 0) _ rfl B9 Tryz.underlying34 rfl (by kernel_rfl)) rfl ⟨rfl, HB9⟩
end Go.Proofs.YteabdeohhmbclaaGreat.Wk
namespace Go.Proofs.YteabdeohhmbclaaGreat.Wk
open Go.RowKit Go.Proofs.Pl Go.Proofs.YteabdeohhmbclaaGreatW.PrintLast
set_option linter.unusedSimpArgs false
set_option linter.unusedVariables false

theorem negI_wf {a : Iv} (wa : WfIv a) : WfIv (negI a) := by
 unfold negI
 split
 ·exact noneI_wf
 ·exact make_wf (negN_all _ wa.2).2.1 (negN_all _ wa.1).2.1
set_option maxRecDepth 100000 in
set_option maxHeartbeats 8000000 in
theorem opsub_calls (a0 : Bool) (a1 : Int) (a2 : Bool) (a3 a4 a5 : Int) (a6 : Bool) (a7 a8 : Int) (b0 : Bool) (b1 : Int) (b2 : Bool) (b3 b4 b5 : Int) (b6 : Bool) (b7 b8 : Int) (w : World) (wa : WfIv ⟨a0, ⟨a1, a2, a3, a4⟩, ⟨a5, a6, a7, a8⟩⟩) (wb : WfIv ⟨b0, ⟨b1, b2, b3, b4⟩, ⟨b5, b6, b7, b8⟩⟩) :
  Calls Tryz.prog 76 #[.agg #[.b a0, .i a1, .b a2, .u a3, .i a4, .i a5, .b a6, .u a7, .i a8], .agg #[.b b0, .i b1, .b b2, .u b3, .i b4, .i b5, .b b6, .u b7, .i b8]] w fun e w' => e = .returned (.agg #[.b (subI ⟨a0, ⟨a1, a2, a3, a4⟩, ⟨a5, a6, a7, a8⟩⟩ ⟨b0, ⟨b1, b2, b3, b4⟩, ⟨b5, b6, b7, b8⟩⟩).emp, .i ((subI ⟨a0, ⟨a1, a2, a3, a4⟩, ⟨a5, a6, a7, a8⟩⟩ ⟨b0, ⟨b1, b2, b3, b4⟩, ⟨b5, b6, b7, b8⟩⟩).lo).k, .b ((subI ⟨a0, ⟨a1, a2, a3, a4⟩, ⟨a5, a6, a7, a8⟩⟩ ⟨b0, ⟨b1, b2, b3, b4⟩, ⟨b5, b6, b7, b8⟩⟩).lo).n, .u ((subI ⟨a0, ⟨a1, a2, a3, a4⟩, ⟨a5, a6, a7, a8⟩⟩ ⟨b0, ⟨b1, b2, b3, b4⟩, ⟨b5, b6, b7, b8⟩⟩).lo).m, .i ((subI ⟨a0, ⟨a1, a2, a3, a4⟩, ⟨a5, a6, a7, a8⟩⟩ ⟨b0, ⟨b1, b2, b3, b4⟩, ⟨b5, b6, b7, b8⟩⟩).lo).e, .i ((subI ⟨a0, ⟨a1, a2, a3, a4⟩, ⟨a5, a6, a7, a8⟩⟩ ⟨b0, ⟨b1, b2, b3, b4⟩, ⟨b5, b6, b7, b8⟩⟩).hi).k, .b ((subI ⟨a0, ⟨a1, a2, a3, a4⟩, ⟨a5, a6, a7, a8⟩⟩ ⟨b0, ⟨b1, b2, b3, b4⟩, ⟨b5, b6, b7, b8⟩⟩).hi).n, .u ((subI ⟨a0, ⟨a1, a2, a3, a4⟩, ⟨a5, a6, a7, a8⟩⟩ ⟨b0, ⟨b1, b2, b3, b4⟩, ⟨b5, b6, b7, b8⟩⟩).hi).m, .i ((subI ⟨a0, ⟨a1, a2, a3, a4⟩, ⟨a5, a6, a7, a8⟩⟩ ⟨b0, ⟨b1, b2, b3, b4⟩, ⟨b5, b6, b7, b8⟩⟩).hi).e]) ∧ Below w.heap.size w w' := by
 have HN := (fun W => opneg_calls b0 b1 b2 b3 b4 b5 b6 b7 b8 W)
 have wm := negI_wf wb
 unfold subI
 generalize negI ⟨b0, ⟨b1, b2, b3, b4⟩, ⟨b5, b6, b7, b8⟩⟩ = m at HN wm ⊢
 obtain ⟨m0, ⟨m1, m2, m3, m4⟩, ⟨m5, m6, m7, m8⟩⟩ := m
 have HA := (fun A c W h => opadd_calls A c a0 a1 a2 a3 a4 a5 a6 a7 a8 m0 m1 m2 m3 m4 m5 m6 m7 m8 W h wa wm)
 generalize addI2 ⟨a0, ⟨a1, a2, a3, a4⟩, ⟨a5, a6, a7, a8⟩⟩ ⟨m0, ⟨m1, m2, m3, m4⟩, ⟨m5, m6, m7, m8⟩⟩ = p at HA ⊢
 obtain ⟨p0, ⟨p1, p2, p3, p4⟩, ⟨p5, p6, p7, p8⟩⟩ := p
 dsimp only at HN HA ⊢
 clear wa wb wm
 replace HN := Lib.hid HN
 replace HA := Lib.hid HA
 have BX : Blk _ w.heap.size 34 #[.b a0, .i a1, .b a2, .u a3, .i a4, .i a5, .b a6, .u a7, .i a8] := ((Blk.new w _ _).alloc (.cells #[.b b0, .i b1, .b b2, .u b3, .i b4, .i b5, .b b6, .u b7, .i b8] 34)).alloc (.cells #[.b false, .i 0, .b false, .u 0, .i 0, .i 0, .b false, .u 0, .i 0] 34)
 have BY : Blk _ (w.heap.size + 1) 34 #[.b b0, .i b1, .b b2, .u b3, .i b4, .i b5, .b b6, .u b7, .i b8] := (Blk.new1 w (.cells #[.b a0, .i a1, .b a2, .u a3, .i a4, .i a5, .b a6, .u a7, .i a8] 34) _ _).alloc (.cells #[.b false, .i 0, .b false, .u 0, .i 0, .i 0, .b false, .u 0, .i 0] 34)
 have BR : Blk _ (w.heap.size + 1 + 1) 34 #[.b false, .i 0, .b false, .u 0, .i 0, .i 0, .b false, .u 0, .i 0] := Blk.new2 w (.cells #[.b a0, .i a1, .b a2, .u a3, .i a4, .i a5, .b a6, .u a7, .i a8] 34) (.cells #[.b b0, .i b1, .b b2, .u b3, .i b4, .i b5, .b b6, .u b7, .i b8] 34) _ _
 have HBd := (bl_alloc (bl_alloc (bl_alloc (Below.refl w.heap.size w) (.cells #[.b a0, .i a1, .b a2, .u a3, .i a4, .i a5, .b a6, .u a7, .i a8] 34)) (.cells #[.b b0, .i b1, .b b2, .u b3, .i b4, .i b5, .b b6, .u b7, .i b8] 34)) (.cells #[.b false, .i 0, .b false, .u 0, .i 0, .i 0, .b false, .u 0, .i 0] 34))
 go_enter Tryz.func76, Tryz.ntmps76
 go_wp2_with fail
 replace BX := BX.drew
 replace BY := BY.drew
 replace BR := BR.drew
 replace HBd := bl_drew HBd
 refine start_ (n := 6) (S := fun w' => w'.cell? ⟨w.heap.size, 0, none⟩ = some (.b a0) ∧ w'.cell? ⟨w.heap.size, 1, none⟩ = some (.i a1) ∧ w'.cell? ⟨w.heap.size, 2, none⟩ = some (.b a2) ∧ w'.cell? ⟨w.heap.size, 3, none⟩ = some (.u a3) ∧ w'.cell? ⟨w.heap.size, 4, none⟩ = some (.i a4) ∧ w'.cell? ⟨w.heap.size, 5, none⟩ = some (.i a5) ∧ w'.cell? ⟨w.heap.size, 6, none⟩ = some (.b a6) ∧ w'.cell? ⟨w.heap.size, 7, none⟩ = some (.u a7) ∧ w'.cell? ⟨w.heap.size, 8, none⟩ = some (.i a8) ∧ w'.cell? ⟨w.heap.size + 1, 0, none⟩ = some (.b b0) ∧ w'.cell? ⟨w.heap.size + 1, 1, none⟩ = some (.i b1) ∧ w'.cell? ⟨w.heap.size + 1, 2, none⟩ = some (.b b2) ∧ w'.cell? ⟨w.heap.size + 1, 3, none⟩ = some (.u b3) ∧ w'.cell? ⟨w.heap.size + 1, 4, none⟩ = some (.i b4) ∧ w'.cell? ⟨w.heap.size + 1, 5, none⟩ = some (.i b5) ∧ w'.cell? ⟨w.heap.size + 1, 6, none⟩ = some (.b b6) ∧ w'.cell? ⟨w.heap.size + 1, 7, none⟩ = some (.u b7) ∧ w'.cell? ⟨w.heap.size + 1, 8, none⟩ = some (.i b8)) (ds := [5]) (bq 6 0) (by kernel_rfl) rfl rfl ⟨BX.cell 0, BX.cell 1, BX.cell 2, BX.cell 3, BX.cell 4, BX.cell 5, BX.cell 6, BX.cell 7, BX.cell 8, BY.cell 0, BY.cell 1, BY.cell 2, BY.cell 3, BY.cell 4, BY.cell 5, BY.cell 6, BY.cell 7, BY.cell 8⟩ (fun hHeld => ?_)
 refine tk 0 5 (bq 6 1) ?_ ?_ ?_ ?_ hHeld ?_
 rotate_left 2
 ·rintro w' ⟨s0_, s1_, s2_, s3_, s4_, s5_, s6_, s7_, s8_, s9_, s10_, s11_, s12_, s13_, s14_, s15_, s16_, s17_⟩
  go_simp
  with_reducible rfl
 ·simp only [Act.put, pA, pB, pC]
  rfl
 refine tk 1 6 (bq 6 3) ?_ ?_ ?_ ?_ hHeld ?_
 rotate_left 2
 ·rintro w' ⟨s0_, s1_, s2_, s3_, s4_, s5_, s6_, s7_, s8_, s9_, s10_, s11_, s12_, s13_, s14_, s15_, s16_, s17_⟩
  go_simp
  with_reducible rfl
 ·simp only [Act.put, pA, pB, pC]
  rfl
 refine on 2 7 (bq 6 7) (fun K hK => ?_)
 refine goes_ Tryz.func88 (by kernel_rfl) rfl #[.agg #[.b b0, .i b1, .b b2, .u b3, .i b4, .i b5, .b b6, .u b7, .i b8]] (by first | rfl | go_simp) rfl rfl (by simp only [List.map_toArray, List.map_cons, List.map_nil] <;> rfl) ?_
 with_reducible refine (HN.out _).mono ?_
 rintro e w3 ⟨rfl, hb⟩
 refine ⟨_, rfl, ?_⟩
 replace BX := BX.call hb
 replace BY := BY.call hb
 replace BR := BR.call hb
 replace HBd := bl_trans HBd hb
 refine hK.out _ _ ⟨BX.cell 0, BX.cell 1, BX.cell 2, BX.cell 3, BX.cell 4, BX.cell 5, BX.cell 6, BX.cell 7, BX.cell 8, BY.cell 0, BY.cell 1, BY.cell 2, BY.cell 3, BY.cell 4, BY.cell 5, BY.cell 6, BY.cell 7, BY.cell 8⟩ (fun hHeld => ?_)
 clear hK K hb
 refine norm_ (a' := ?_) ?_ ?_
 rotate_left
 ·show Act.put _ (some 7) _ = _
  simp only [Act.put, pA, pB, pC]
  rfl
 refine on 3 8 (bq 6 15) (fun K hK => ?_)
 refine value_ (v := ?_) (w1 := ?_) (by rfl) rfl ?_ ?_
 rotate_left 2
 ·go_simp
  first | rfl | (constructor <;> rfl)
 have BL := Blk.new w3 34 #[.b a0, .i a1, .b a2, .u a3, .i a4, .i a5, .b a6, .u a7, .i a8, .b m0, .i m1, .b m2, .u m3, .i m4, .i m5, .b m6, .u m7, .i m8]
 replace BX := BX.alloc (.cells #[.b a0, .i a1, .b a2, .u a3, .i a4, .i a5, .b a6, .u a7, .i a8, .b m0, .i m1, .b m2, .u m3, .i m4, .i m5, .b m6, .u m7, .i m8] 34)
 replace BY := BY.alloc (.cells #[.b a0, .i a1, .b a2, .u a3, .i a4, .i a5, .b a6, .u a7, .i a8, .b m0, .i m1, .b m2, .u m3, .i m4, .i m5, .b m6, .u m7, .i m8] 34)
 replace BR := BR.alloc (.cells #[.b a0, .i a1, .b a2, .u a3, .i a4, .i a5, .b a6, .u a7, .i a8, .b m0, .i m1, .b m2, .u m3, .i m4, .i m5, .b m6, .u m7, .i m8] 34)
 replace HBd := bl_alloc HBd (.cells #[.b a0, .i a1, .b a2, .u a3, .i a4, .i a5, .b a6, .u a7, .i a8, .b m0, .i m1, .b m2, .u m3, .i m4, .i m5, .b m6, .u m7, .i m8] 34)
 refine hK.out _ _ ⟨BX.cell 0, BX.cell 1, BX.cell 2, BX.cell 3, BX.cell 4, BX.cell 5, BX.cell 6, BX.cell 7, BX.cell 8, BY.cell 0, BY.cell 1, BY.cell 2, BY.cell 3, BY.cell 4, BY.cell 5, BY.cell 6, BY.cell 7, BY.cell 8⟩ (fun hHeld => ?_)
 clear hK K
 refine norm_ (a' := ?_) ?_ ?_
 rotate_left
 ·show Act.put _ (some 8) _ = _
  simp only [Act.put, pA, pB, pC]
  rfl
 refine on 4 9 (bq 6 31) (fun K hK => ?_)
 refine goes_ Tryz.func87 (by kernel_rfl) rfl #[.slice (some ⟨w3.heap.size, 0, none⟩) 2 2] (by first | rfl | go_simp) rfl rfl (by simp only [List.map_toArray, List.map_cons, List.map_nil] <;> rfl) ?_
 with_reducible refine (HA.out _ _ _ (SlI.lit2 (x := ⟨a0, ⟨a1, a2, a3, a4⟩, ⟨a5, a6, a7, a8⟩⟩) (y := ⟨m0, ⟨m1, m2, m3, m4⟩, ⟨m5, m6, m7, m8⟩⟩) BL BL.lt)).mono ?_
 rintro e w4 ⟨rfl, hb⟩
 refine ⟨_, rfl, ?_⟩
 replace BX := BX.call hb
 replace BY := BY.call hb
 replace BR := BR.call hb
 replace HBd := bl_trans HBd hb
 refine hK.out _ _ ⟨BX.cell 0, BX.cell 1, BX.cell 2, BX.cell 3, BX.cell 4, BX.cell 5, BX.cell 6, BX.cell 7, BX.cell 8, BY.cell 0, BY.cell 1, BY.cell 2, BY.cell 3, BY.cell 4, BY.cell 5, BY.cell 6, BY.cell 7, BY.cell 8⟩ (fun hHeld => ?_)
 clear hK K hb
 refine norm_ (a' := ?_) ?_ ?_
 rotate_left
 ·show Act.put _ (some 9) _ = _
  simp only [Act.put, pA, pB, pC]
  rfl
 obtain ⟨⟨z0, z1, z2, z3, z4, z5, z6, z7, z8⟩, ⟨k0, k1, k2, k3, k4, k5, k6, k7, k8⟩⟩ := BR.c9
 obtain ⟨W9, hW9, B9, hK9, hL9, _⟩ := put9 BR (.b p0) (.i p1) (.b p2) (.u p3) (.i p4) (.i p5) (.b p6) (.u p7) (.i p8)
 have HB9 := hL9 w HBd (by omega)
 refine last_ (i := 5) (N := none) (bq 6 63) rfl rfl (by kernel_rfl) (by decide) (fun K hK => ?_)
 refine skip_ (w1 := ?_) (by rfl) rfl ?_ ?_
 rotate_left
 ·go_simp
  rfl
 refine hK.out _ _ ?_
 clear hK K
 refine done_ (by kernel_rfl) ?_
 clear hHeld BX BY BR HBd
 try rw [hW9]
 clear z0 z1 z2 z3 z4 z5 z6 z7 z8 k0 k1 k2 k3 k4 k5 k6 k7 k8 hW9 hK9 hL9
 go_wp2
 exact bodyPost_ret (results_cell_row rfl _ _ (w.heap.size + 1 + 1) 34 _ (0, 0) _ rfl B9 Tryz.underlying34 rfl (by kernel_rfl)) rfl ⟨rfl, HB9⟩
end Go.Proofs.YteabdeohhmbclaaGreat.Wk
