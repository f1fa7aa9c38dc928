import Derived.Test.YteabdeohhmbclaaGreatPvCy
namespace Go.Proofs.YteabdeohhmbclaaGreat.Wk
open Go.RowKit Go.Proofs.Pl Go.Proofs.YteabdeohhmbclaaGreatW.PrintLast
set_option linter.unusedSimpArgs false
set_option linter.unusedVariables false
theorem step_appC {w : World} {ops : Array Oper} {o : Oper} {a : Act} {K : Act → World → Prop} {Q : Exit → Act → World → Prop} {E : Prop} (hgd : o.guard = none) (s x : Operand) (ho : o.op = .call { callee := .builtin .append, args := #[s, x], argTypes := #[22, 22] }) (base : Nat) (v : Value) (xs : List Cl) (hs : a.eval s = v) (hown : OwnC w base v xs) (B : Nat) (A : Addr) (m c : Nat) (ys : List Cl) (hx : a.eval x = .slice (some A) m c) (hys : SlC w B (some A) m ys) (hsm : xs.length + m ≤ 1000000) (hbase : base ≤ w.heap.size)
  (h : ∀ v' w', OwnC w' base v' (xs ++ ys) → w.grownBy w' v.ownBlock → (v'.ownBlock = v.ownBlock ∨ v'.ownBlock = some w.heap.size) → K (a.put o.dst v') w') : if Region.wanted o (yielded ops a.tmps) = true then Oper.wp Tryz.prog o a w K Q else E := by
 have hw : Region.wanted o (yielded ops a.tmps) = true := by simp [Region.wanted, hgd]
 rw [if_pos hw]
 obtain ⟨v', w', hr, h1, h2, h3⟩ := run_appC base v xs hown o.type B A m c ys hys hsm hbase
 unfold Oper.wp execOp
 simp only [ho, resolve, invoke, builtin, Sem.run_bind, Sem.run_pure, Result.andThen_ok, List.map_toArray, List.map_cons, List.map_nil, hs, hx, hr]
 exact h _ _ h1 h2 h3
def lookR (o : Bool) (R : Option (Pr × Pr)) (ps : List Pr) (p : Pr) (cs : List Cl) : List Pr × List Cl :=
 if o = true then (ps, cs) else match R with
  | some (h, l) => (ps ++ [h, l], cs)
  | none => (ps, cs ++ [⟨p, 0⟩])
theorem lookS_snoc' {out : Pr → Bool} {spl : Pr → Option (Pr × Pr)} (ps : List Pr) (p : Pr) (cs : List Cl) : lookS out spl (ps ++ [p], cs) = lookR (out p) (spl p) ps p cs := lookS_snoc ps p cs
def outX (X : PvX) (p : Pr) : Bool := outP X.s X.i X.xs X.t X.j X.ys X.g p.a p.b
structure PvOk (w : World) (base : Nat) (X : PvX) : Prop where
 x : SlT w base X.A X.n X.xs
 y : SlT w base X.B X.m X.ys
 wx : WfTb X.s X.i X.xs
 wy : WfTb X.t X.j X.ys
theorem SlT.more' {w : World} {B B' n : Nat} {A : Option Addr} {xs : List Slc} (h : SlT w B A n xs) (hB : B ≤ B') : SlT w B' A n xs := ⟨h.1, fun hn => by obtain ⟨b, off, e, hb, hc⟩ := h.2 hn; exact ⟨b, off, e, by omega, hc⟩⟩
theorem SlT.below' {w w' : World} {B n : Nat} {A : Option Addr} {xs : List Slc} (h : SlT w B A n xs) (hb : Below B w w') : SlT w' B A n xs := h.keep fun b o hlt => hb.cell (p := ⟨b, o, none⟩) hlt
theorem PvOk.below {w w' : World} {base : Nat} {X : PvX} (h : PvOk w base X) (hb : Below base w w') : PvOk w' base X := ⟨h.x.below' hb, h.y.below' hb, h.wx, h.wy⟩
theorem pv_set (vs vc v : Value) (X : PvX) : (vs :: pvRest X vc).toArray.setIfInBounds 37 v = (vs :: pvRest X v).toArray := rfl
set_option maxRecDepth 100000 in
set_option maxHeartbeats 8000000 in
theorem look_calls (V : Nat) (X : PvX) (base : Nat) (vs vc : Value) (ps : List Pr) (p : Pr) (cs : List Cl) (w : World) (hV : BlkV w V X vs vc) (ho : OwnP w base vs (ps ++ [p])) (hc : OwnC w base vc cs) (hb0 : base ≤ w.heap.size) (hbV : base ≤ V) (hk : PvOk w base X) (wp : WfP p) (hl : ps.length ≤ 10000) (hcl : cs.length ≤ 10000) :
  Calls Tryz.prog 18 #[.pointer (some ⟨V, 0, none⟩)] w fun e w' => (∃ u, e = .returned u) ∧ ∃ vs' vc', BlkV w' V X vs' vc' ∧ OwnP w' base vs' (lookS (outX X) (splP X.f) (ps ++ [p], cs)).1 ∧ OwnC w' base vc' (lookS (outX X) (splP X.f) (ps ++ [p], cs)).2 ∧ Below base w w' := by
 rw [lookS_snoc']
 obtain ⟨⟨a0, ⟨a1, a2, a3, a4⟩, ⟨a5, a6, a7, a8⟩⟩, ⟨b0, ⟨b1, b2, b3, b4⟩, ⟨b5, b6, b7, b8⟩⟩⟩ := p
 have HO := (fun W (h : PvOk W base X) (hW : base ≤ W.heap.size) => out_calls X.s.k X.s.n X.s.m X.s.e X.i.emp X.i.lo.k X.i.lo.n X.i.lo.m X.i.lo.e X.i.hi.k X.i.hi.n X.i.hi.m X.i.hi.e X.A X.n X.c X.xs X.t.k X.t.n X.t.m X.t.e X.j.emp X.j.lo.k X.j.lo.n X.j.lo.m X.j.lo.e X.j.hi.k X.j.hi.n X.j.hi.m X.j.hi.e X.B X.m X.d X.ys X.g.k X.g.n X.g.m X.g.e a0 a1 a2 a3 a4 a5 a6 a7 a8 b0 b1 b2 b3 b4 b5 b6 b7 b8 W (h.x.more' hW) (h.y.more' hW) h.wx h.wy wp.1.1 wp.2.2)
 have HO : Hid (∀ W, PvOk W base X → base ≤ W.heap.size → Calls Tryz.prog 31 #[.agg (tubC X.s X.i (.slice X.A X.n X.c)).toArray, .agg (tubC X.t X.j (.slice X.B X.m X.d)).toArray, .agg #[.i X.g.k, .bool X.g.n, .u X.g.m, .i X.g.e], .agg #[.b a0, .i a1, .b a2, .u a3, .i a4, .i a5, .b a6, .u a7, .i a8, .b b0, .i b1, .b b2, .u b3, .i b4, .i b5, .b b6, .u b7, .i b8]] W fun e w' => e = .returned (.b (outX X ⟨⟨a0, ⟨a1, a2, a3, a4⟩, ⟨a5, a6, a7, a8⟩⟩, ⟨b0, ⟨b1, b2, b3, b4⟩, ⟨b5, b6, b7, b8⟩⟩⟩)) ∧ Below W.heap.size W w') := Lib.hid HO
 generalize outX X ⟨⟨a0, ⟨a1, a2, a3, a4⟩, ⟨a5, a6, a7, a8⟩⟩, ⟨b0, ⟨b1, b2, b3, b4⟩, ⟨b5, b6, b7, b8⟩⟩⟩ = o at HO ⊢
 have HS : Hid (∀ W vs, BlkV W V X vs vc → OwnP W base vs ps → base ≤ W.heap.size → Calls Tryz.prog 32 #[.pointer (some ⟨V, 0, none⟩), .agg #[.b a0, .i a1, .b a2, .u a3, .i a4, .i a5, .b a6, .u a7, .i a8, .b b0, .i b1, .b b2, .u b3, .i b4, .i b5, .b b6, .u b7, .i b8]] W fun e w' => e = .returned (.b (splP X.f ⟨⟨a0, ⟨a1, a2, a3, a4⟩, ⟨a5, a6, a7, a8⟩⟩, ⟨b0, ⟨b1, b2, b3, b4⟩, ⟨b5, b6, b7, b8⟩⟩⟩).isSome) ∧ ∃ v', BlkV w' V X v' vc ∧ OwnP w' base v' (ps ++ lstO (splP X.f ⟨⟨a0, ⟨a1, a2, a3, a4⟩, ⟨a5, a6, a7, a8⟩⟩, ⟨b0, ⟨b1, b2, b3, b4⟩, ⟨b5, b6, b7, b8⟩⟩⟩)) ∧ Only (fun k => k = V ∨ vs.ownBlock = some k) W w') := fun W vs hV ho hb => split_calls V X vc base vs ps a0 a1 a2 a3 a4 a5 a6 a7 a8 b0 b1 b2 b3 b4 b5 b6 b7 b8 W hV ho hb hbV wp (by omega)
 generalize splP X.f ⟨⟨a0, ⟨a1, a2, a3, a4⟩, ⟨a5, a6, a7, a8⟩⟩, ⟨b0, ⟨b1, b2, b3, b4⟩, ⟨b5, b6, b7, b8⟩⟩⟩ = R at HS ⊢
 have HP : Hid (Calls Tryz.prog 19 #[.pointer (some ⟨V, 0, none⟩)] w fun e w' => e = .returned (.agg #[.b a0, .i a1, .b a2, .u a3, .i a4, .i a5, .b a6, .u a7, .i a8, .b b0, .i b1, .b b2, .u b3, .i b4, .i b5, .b b6, .u b7, .i b8]) ∧ ∃ v', BlkV w' V X v' vc ∧ OwnP w' base v' ps ∧ v'.ownBlock = vs.ownBlock ∧ Only (fun k => k = V) w w') := pop_calls V (pvRest X vc) 57 (by decide) base vs ps ⟨⟨a0, ⟨a1, a2, a3, a4⟩, ⟨a5, a6, a7, a8⟩⟩, ⟨b0, ⟨b1, b2, b3, b4⟩, ⟨b5, b6, b7, b8⟩⟩⟩ w hV ho (by omega)
 have HK := Lib.hid hk
 replace ho := Lib.hid ho
 replace hV := Lib.hid hV
 replace hc := Lib.hid hc
 clear hk wp
 go_enter Tryz.func18, Tryz.ntmps18
 go_wp2_with (first
  | (go_at_call 19; (with_reducible refine HP.out.mono ?_); rintro e w1 ⟨rfl, v1, V1, O1, e1, N1⟩; have OC1 : OwnC w1 base vc cs := hc.out.same (fun g hg => (by obtain ⟨cur, hcur⟩ := hc.out.cells hg; exact (N1.blk hcur (blk_ne hcur hV.out (by decide))).trans hcur.symm)); have B1 : Below base w w1 := N1.below hb0 (fun k hk => by rw [hk]; exact hbV); replace OC1 := Lib.hid OC1; replace O1 := Lib.hid O1; replace V1 := Lib.hid V1; replace N1 := Lib.hid N1; replace e1 := Lib.hid e1)
  | (refine wpList_stG rfl 41 (.tmp 2) (.tmp 6) rfl w1.heap.size _ #[.b a0, .i a1, .b a2, .u a3, .i a4, .i a5, .b a6, .u a7, .i a8, .b b0, .i b1, .b b2, .u b3, .i b4, .i b5, .b b6, .u b7, .i b8] (Blk.new w1 41 zPr) rfl rfl (by kernel_rfl) rfl (by simp [Value.oneCell']) ?_; intro W2 BP P2))
 have gV := V1.out.lt
 have BV : BlkV _ V X v1 vc := (P2.blk (V1.out.alloc (.cells zPr 41)) (by omega)).drew
 have OP := (O1.out.same (fun g hg => (P2.2.2.2.2 g (by have := (O1.out.lt g hg).2; omega)).trans (Below.heap_alloc w1 (.cells zPr 41) g (O1.out.lt g hg).2))).drew
 have OC := (OC1.out.same (fun g hg => (P2.2.2.2.2 g (by have := (OC1.out.lt g hg).2; omega)).trans (Below.heap_alloc w1 (.cells zPr 41) g (OC1.out.lt g hg).2))).drew
 have HBd : Below base w _ := P2.bel (B1.alloc (Nat.le_trans hb0 B1.size) (.cells zPr 41)) (Nat.le_trans hb0 B1.size)
 replace HBd : Below base w W2.drew := ⟨HBd.os, HBd.tape, HBd.output, HBd.size, HBd.block⟩
 replace BP := BP.drew
 clear B1 P2 hV ho hc HP
 cases o
 rotate_left
 ·skip
  refine start_ (n := 21) (S := fun w' => BlkV w' V X v1 vc ∧ Blk w' w1.heap.size 41 #[.b a0, .i a1, .b a2, .u a3, .i a4, .i a5, .b a6, .u a7, .i a8, .b b0, .i b1, .b b2, .u b3, .i b4, .i b5, .b b6, .u b7, .i b8]) (ds := []) (bq 21 0) (by kernel_rfl) rfl rfl ⟨BV, BP⟩ (fun hHeld => ?_)
  generalize hWW : World.drew _ = w3 at BV BP OP OC HBd hHeld ⊢
  clear hWW
  refine pu 0 7 (bq 21 1) ?_ ?_ (fun _ => ?_) ?_ ?_
  rotate_left 2
  ·go_simp
   with_reducible rfl
  ·simp only [Act.put, pA, pB, pC]
   rfl
  refine pu 1 8 (bq 21 3) ?_ ?_ (fun _ => ?_) ?_ ?_
  rotate_left 2
  ·go_simp
   with_reducible rfl
  ·simp only [Act.put, pA, pB, pC]
   rfl
  refine pu 2 9 (bq 21 7) ?_ ?_ (fun _ => ?_) ?_ ?_
  rotate_left 2
  ·go_simp
   with_reducible rfl
  ·simp only [Act.put, pA, pB, pC]
   rfl
  refine ta 3 10 (bq 21 15) rfl (.agg (tubC X.s X.i (.slice X.A X.n X.c)).toArray) ?_ hHeld (yieldsIf_load_mid (by rfl) 37 (.tmp 9) rfl V 1 rfl (tubC X.s X.i (.slice X.A X.n X.c)) _ (fun _ h => rangeX h.1) Tryz.underlying37 rfl (by kernel_rfl)) ?_ ?_
  rotate_left
  ·simp only [Act.put, pA, pB, pC]
   rfl
  refine pu 4 11 (bq 21 31) ?_ ?_ (fun _ => ?_) ?_ ?_
  rotate_left 2
  ·go_simp
   with_reducible rfl
  ·simp only [Act.put, pA, pB, pC]
   rfl
  refine pu 5 12 (bq 21 63) ?_ ?_ (fun _ => ?_) ?_ ?_
  rotate_left 2
  ·go_simp
   with_reducible rfl
  ·simp only [Act.put, pA, pB, pC]
   rfl
  refine pu 6 13 (bq 21 127) ?_ ?_ (fun _ => ?_) ?_ ?_
  rotate_left 2
  ·go_simp
   with_reducible rfl
  ·simp only [Act.put, pA, pB, pC]
   rfl
  refine ta 7 14 (bq 21 255) rfl (.agg (tubC X.t X.j (.slice X.B X.m X.d)).toArray) ?_ hHeld (yieldsIf_load_mid (by rfl) 37 (.tmp 13) rfl V 15 rfl (tubC X.t X.j (.slice X.B X.m X.d)) _ (fun _ h => rangeY h.1) Tryz.underlying37 rfl (by kernel_rfl)) ?_ ?_
  rotate_left
  ·simp only [Act.put, pA, pB, pC]
   rfl
  refine pu 8 15 (bq 21 511) ?_ ?_ (fun _ => ?_) ?_ ?_
  rotate_left 2
  ·go_simp
   with_reducible rfl
  ·simp only [Act.put, pA, pB, pC]
   rfl
  refine pu 9 16 (bq 21 1023) ?_ ?_ (fun _ => ?_) ?_ ?_
  rotate_left 2
  ·go_simp
   with_reducible rfl
  ·simp only [Act.put, pA, pB, pC]
   rfl
  refine pu 10 17 (bq 21 2047) ?_ ?_ (fun _ => ?_) ?_ ?_
  rotate_left 2
  ·go_simp
   with_reducible rfl
  ·simp only [Act.put, pA, pB, pC]
   rfl
  refine ta 11 18 (bq 21 4095) rfl (.agg #[.i X.g.k, .bool X.g.n, .u X.g.m, .i X.g.e]) ?_ hHeld (yieldsIf_load_mid (by rfl) 32 (.tmp 17) rfl V 29 rfl [.i X.g.k, .bool X.g.n, .u X.g.m, .i X.g.e] _ (fun _ h => rangeG h.1) Tryz.underlying32 rfl (by kernel_rfl)) ?_ ?_
  rotate_left
  ·simp only [Act.put, pA, pB, pC]
   rfl
  refine ta 12 19 (bq 21 8191) rfl (.agg #[.b a0, .i a1, .b a2, .u a3, .i a4, .i a5, .b a6, .u a7, .i a8, .b b0, .i b1, .b b2, .u b3, .i b4, .i b5, .b b6, .u b7, .i b8]) ?_ hHeld (yieldsIf_load_mid (by rfl) 41 (.tmp 2) rfl w1.heap.size 0 rfl [.b a0, .i a1, .b a2, .u a3, .i a4, .i a5, .b a6, .u a7, .i a8, .b b0, .i b1, .b b2, .u b3, .i b4, .i b5, .b b6, .u b7, .i b8] _ (fun _ h => Blk.range h.2 0 _ rfl) Tryz.underlying41 rfl (by kernel_rfl)) ?_ ?_
  rotate_left
  ·simp only [Act.put, pA, pB, pC]
   rfl
  refine on 13 20 (bq 21 16383) (fun K hK => ?_)
  refine goes_ Tryz.func31 (by kernel_rfl) rfl #[.agg (tubC X.s X.i (.slice X.A X.n X.c)).toArray, .agg (tubC X.t X.j (.slice X.B X.m X.d)).toArray, .agg #[.i X.g.k, .bool X.g.n, .u X.g.m, .i X.g.e], .agg #[.b a0, .i a1, .b a2, .u a3, .i a4, .i a5, .b a6, .u a7, .i a8, .b b0, .i b1, .b b2, .u b3, .i b4, .i b5, .b b6, .u b7, .i b8]] (by first | rfl | go_simp) rfl rfl (by simp only [List.map_toArray, List.map_cons, List.map_nil] <;> rfl) ?_
  with_reducible refine (HO.out _ (HK.out.below HBd) (Nat.le_trans hb0 HBd.size)).mono ?_
  rintro e w4 ⟨rfl, hb⟩
  refine ⟨_, rfl, ?_⟩
  replace BV : BlkV _ V X _ vc := BV.call hb
  replace BP := BP.call hb
  replace OP := OP.call hb
  replace OC := OC.call hb
  replace HBd := HBd.trans (hb.mono (Nat.le_trans hb0 HBd.size))
  refine hK.out _ _ ⟨BV, BP⟩ (fun hHeld => ?_)
  clear hK K hb
  refine norm_ (a' := ?_) ?_ ?_
  rotate_left
  ·show Act.put _ (some 20) _ = _
   simp only [Act.put, pA, pB, pC]
   rfl
  refine pu 14 21 (bq 21 32767) ?_ ?_ (fun _ => ?_) ?_ ?_
  rotate_left 2
  ·go_simp
   with_reducible rfl
  ·simp only [Act.put, pA, pB, pC]
   rfl
  refine pu 15 22 (bq 21 65535) ?_ ?_ (fun _ => ?_) ?_ ?_
  rotate_left 2
  ·go_simp
   with_reducible rfl
  ·simp only [Act.put, pA, pB, pC]
   rfl
  refine po 16 23 (bq 21 131071) ?_ ?_ ?_
  rotate_left
  ·simp only [Act.put, pA, pB, pC]
   rfl
  refine po 17 24 (bq 21 262143) ?_ ?_ ?_
  rotate_left
  ·simp only [Act.put, pA, pB, pC]
   rfl
  refine po 18 25 (bq 21 524287) ?_ ?_ ?_
  rotate_left
  ·simp only [Act.put, pA, pB, pC]
   rfl
  refine po 19 26 (bq 21 1048575) ?_ ?_ ?_
  rotate_left
  ·simp only [Act.put, pA, pB, pC]
   rfl
  refine pu 20 27 (bq 21 2097151) ?_ ?_ (fun _ => ?_) ?_ ?_
  rotate_left 2
  ·go_simp
   with_reducible rfl
  ·simp only [Act.put, pA, pB, pC]
   rfl
  refine done_ (by kernel_rfl) ?_
  clear hHeld
  go_wp2_with fail
  go_end0
  exact ⟨⟨_, rfl⟩, v1, vc, BV, OP, OC, HBd⟩
 cases R with
 | some hl' =>
  obtain ⟨h, l⟩ := hl'
  refine start_ (n := 21) (S := fun w' => BlkV w' V X v1 vc ∧ Blk w' w1.heap.size 41 #[.b a0, .i a1, .b a2, .u a3, .i a4, .i a5, .b a6, .u a7, .i a8, .b b0, .i b1, .b b2, .u b3, .i b4, .i b5, .b b6, .u b7, .i b8]) (ds := [18]) (bq 21 0) (by kernel_rfl) rfl rfl ⟨BV, BP⟩ (fun hHeld => ?_)
  generalize hWW : World.drew _ = w3 at BV BP OP OC HBd hHeld ⊢
  clear hWW
  refine pu 0 7 (bq 21 1) ?_ ?_ (fun _ => ?_) ?_ ?_
  rotate_left 2
  ·go_simp
   with_reducible rfl
  ·simp only [Act.put, pA, pB, pC]
   rfl
  refine pu 1 8 (bq 21 3) ?_ ?_ (fun _ => ?_) ?_ ?_
  rotate_left 2
  ·go_simp
   with_reducible rfl
  ·simp only [Act.put, pA, pB, pC]
   rfl
  refine pu 2 9 (bq 21 7) ?_ ?_ (fun _ => ?_) ?_ ?_
  rotate_left 2
  ·go_simp
   with_reducible rfl
  ·simp only [Act.put, pA, pB, pC]
   rfl
  refine ta 3 10 (bq 21 15) rfl (.agg (tubC X.s X.i (.slice X.A X.n X.c)).toArray) ?_ hHeld (yieldsIf_load_mid (by rfl) 37 (.tmp 9) rfl V 1 rfl (tubC X.s X.i (.slice X.A X.n X.c)) _ (fun _ h => rangeX h.1) Tryz.underlying37 rfl (by kernel_rfl)) ?_ ?_
  rotate_left
  ·simp only [Act.put, pA, pB, pC]
   rfl
  refine pu 4 11 (bq 21 31) ?_ ?_ (fun _ => ?_) ?_ ?_
  rotate_left 2
  ·go_simp
   with_reducible rfl
  ·simp only [Act.put, pA, pB, pC]
   rfl
  refine pu 5 12 (bq 21 63) ?_ ?_ (fun _ => ?_) ?_ ?_
  rotate_left 2
  ·go_simp
   with_reducible rfl
  ·simp only [Act.put, pA, pB, pC]
   rfl
  refine pu 6 13 (bq 21 127) ?_ ?_ (fun _ => ?_) ?_ ?_
  rotate_left 2
  ·go_simp
   with_reducible rfl
  ·simp only [Act.put, pA, pB, pC]
   rfl
  refine ta 7 14 (bq 21 255) rfl (.agg (tubC X.t X.j (.slice X.B X.m X.d)).toArray) ?_ hHeld (yieldsIf_load_mid (by rfl) 37 (.tmp 13) rfl V 15 rfl (tubC X.t X.j (.slice X.B X.m X.d)) _ (fun _ h => rangeY h.1) Tryz.underlying37 rfl (by kernel_rfl)) ?_ ?_
  rotate_left
  ·simp only [Act.put, pA, pB, pC]
   rfl
  refine pu 8 15 (bq 21 511) ?_ ?_ (fun _ => ?_) ?_ ?_
  rotate_left 2
  ·go_simp
   with_reducible rfl
  ·simp only [Act.put, pA, pB, pC]
   rfl
  refine pu 9 16 (bq 21 1023) ?_ ?_ (fun _ => ?_) ?_ ?_
  rotate_left 2
  ·go_simp
   with_reducible rfl
  ·simp only [Act.put, pA, pB, pC]
   rfl
  refine pu 10 17 (bq 21 2047) ?_ ?_ (fun _ => ?_) ?_ ?_
  rotate_left 2
  ·go_simp
   with_reducible rfl
  ·simp only [Act.put, pA, pB, pC]
   rfl
  refine ta 11 18 (bq 21 4095) rfl (.agg #[.i X.g.k, .bool X.g.n, .u X.g.m, .i X.g.e]) ?_ hHeld (yieldsIf_load_mid (by rfl) 32 (.tmp 17) rfl V 29 rfl [.i X.g.k, .bool X.g.n, .u X.g.m, .i X.g.e] _ (fun _ h => rangeG h.1) Tryz.underlying32 rfl (by kernel_rfl)) ?_ ?_
  rotate_left
  ·simp only [Act.put, pA, pB, pC]
   rfl
  refine ta 12 19 (bq 21 8191) rfl (.agg #[.b a0, .i a1, .b a2, .u a3, .i a4, .i a5, .b a6, .u a7, .i a8, .b b0, .i b1, .b b2, .u b3, .i b4, .i b5, .b b6, .u b7, .i b8]) ?_ hHeld (yieldsIf_load_mid (by rfl) 41 (.tmp 2) rfl w1.heap.size 0 rfl [.b a0, .i a1, .b a2, .u a3, .i a4, .i a5, .b a6, .u a7, .i a8, .b b0, .i b1, .b b2, .u b3, .i b4, .i b5, .b b6, .u b7, .i b8] _ (fun _ h => Blk.range h.2 0 _ rfl) Tryz.underlying41 rfl (by kernel_rfl)) ?_ ?_
  rotate_left
  ·simp only [Act.put, pA, pB, pC]
   rfl
  refine on 13 20 (bq 21 16383) (fun K hK => ?_)
  refine goes_ Tryz.func31 (by kernel_rfl) rfl #[.agg (tubC X.s X.i (.slice X.A X.n X.c)).toArray, .agg (tubC X.t X.j (.slice X.B X.m X.d)).toArray, .agg #[.i X.g.k, .bool X.g.n, .u X.g.m, .i X.g.e], .agg #[.b a0, .i a1, .b a2, .u a3, .i a4, .i a5, .b a6, .u a7, .i a8, .b b0, .i b1, .b b2, .u b3, .i b4, .i b5, .b b6, .u b7, .i b8]] (by first | rfl | go_simp) rfl rfl (by simp only [List.map_toArray, List.map_cons, List.map_nil] <;> rfl) ?_
  with_reducible refine (HO.out _ (HK.out.below HBd) (Nat.le_trans hb0 HBd.size)).mono ?_
  rintro e w4 ⟨rfl, hb⟩
  refine ⟨_, rfl, ?_⟩
  replace BV : BlkV _ V X _ vc := BV.call hb
  replace BP := BP.call hb
  replace OP := OP.call hb
  replace OC := OC.call hb
  replace HBd := HBd.trans (hb.mono (Nat.le_trans hb0 HBd.size))
  refine hK.out _ _ ⟨BV, BP⟩ (fun hHeld => ?_)
  clear hK K hb
  refine norm_ (a' := ?_) ?_ ?_
  rotate_left
  ·show Act.put _ (some 20) _ = _
   simp only [Act.put, pA, pB, pC]
   rfl
  refine pu 14 21 (bq 21 32767) ?_ ?_ (fun _ => ?_) ?_ ?_
  rotate_left 2
  ·go_simp
   with_reducible rfl
  ·simp only [Act.put, pA, pB, pC]
   rfl
  refine pu 15 22 (bq 21 65535) ?_ ?_ (fun _ => ?_) ?_ ?_
  rotate_left 2
  ·go_simp
   with_reducible rfl
  ·simp only [Act.put, pA, pB, pC]
   rfl
  refine pu 16 23 (bq 21 131071) ?_ ?_ (fun _ => ?_) ?_ ?_
  rotate_left 2
  ·go_simp
   with_reducible rfl
  ·simp only [Act.put, pA, pB, pC]
   rfl
  refine ta 17 24 (bq 21 262143) rfl (.agg #[.b a0, .i a1, .b a2, .u a3, .i a4, .i a5, .b a6, .u a7, .i a8, .b b0, .i b1, .b b2, .u b3, .i b4, .i b5, .b b6, .u b7, .i b8]) ?_ hHeld (yieldsIf_load_mid (by rfl) 41 (.tmp 2) rfl w1.heap.size 0 rfl [.b a0, .i a1, .b a2, .u a3, .i a4, .i a5, .b a6, .u a7, .i a8, .b b0, .i b1, .b b2, .u b3, .i b4, .i b5, .b b6, .u b7, .i b8] _ (fun _ h => Blk.range h.2 0 _ rfl) Tryz.underlying41 rfl (by kernel_rfl)) ?_ ?_
  rotate_left
  ·simp only [Act.put, pA, pB, pC]
   rfl
  refine last_ (i := 18) (N := some 25) (bq 21 524287) rfl rfl (by kernel_rfl) (by decide) (fun K hK => ?_)
  refine goes_ Tryz.func32 (by kernel_rfl) rfl #[.pointer (some ⟨V, 0, none⟩), .agg #[.b a0, .i a1, .b a2, .u a3, .i a4, .i a5, .b a6, .u a7, .i a8, .b b0, .i b1, .b b2, .u b3, .i b4, .i b5, .b b6, .u b7, .i b8]] (by first | rfl | go_simp) rfl rfl (by simp only [List.map_toArray, List.map_cons, List.map_nil] <;> rfl) ?_
  with_reducible refine (HS.out _ v1 BV OP (Nat.le_trans hb0 HBd.size)).mono ?_
  rintro e w5 ⟨rfl, v5, BV5, OP5, ON5⟩
  refine ⟨_, rfl, ?_⟩
  have KV5 := KpV.of_only ON5 OP hbV (Nat.le_trans hb0 HBd.size)
  have OC5 := OwnC.kpv OC KV5 BV (by decide)
  have BP5 := ON5.blk BP (by rintro (h | h); exact absurd h (by omega); exact absurd (O1.out.lt _ h).2 (by omega))
  have HB5 := HBd.trans KV5.1
  clear KV5 ON5 BV BP OP OC HBd
  refine hK.out _ _ ?_
  clear hK K
  refine norm_ (a' := ?_) ?_ ?_
  rotate_left
  ·show Act.put _ (some 25) _ = _
   simp only [Act.put, pA, pB, pC]
   rfl
  refine pu 19 26 (bq 21 1048575) ?_ ?_ (fun _ => ?_) ?_ ?_
  rotate_left 2
  ·go_simp
   with_reducible rfl
  ·simp only [Act.put, pA, pB, pC]
   rfl
  refine pu 20 27 (bq 21 2097151) ?_ ?_ (fun _ => ?_) ?_ ?_
  rotate_left 2
  ·go_simp
   with_reducible rfl
  ·simp only [Act.put, pA, pB, pC]
   rfl
  refine done_ (by kernel_rfl) ?_
  clear hHeld
  go_wp2_with fail
  go_end0
  exact ⟨⟨_, rfl⟩, v5, vc, BV5, OP5, OC5, HB5⟩
 | none =>
  refine start_ (n := 21) (S := fun w' => BlkV w' V X v1 vc ∧ Blk w' w1.heap.size 41 #[.b a0, .i a1, .b a2, .u a3, .i a4, .i a5, .b a6, .u a7, .i a8, .b b0, .i b1, .b b2, .u b3, .i b4, .i b5, .b b6, .u b7, .i b8]) (ds := [18]) (bq 21 0) (by kernel_rfl) rfl rfl ⟨BV, BP⟩ (fun hHeld => ?_)
  generalize hWW : World.drew _ = w3 at BV BP OP OC HBd hHeld ⊢
  clear hWW
  refine pu 0 7 (bq 21 1) ?_ ?_ (fun _ => ?_) ?_ ?_
  rotate_left 2
  ·go_simp
   with_reducible rfl
  ·simp only [Act.put, pA, pB, pC]
   rfl
  refine pu 1 8 (bq 21 3) ?_ ?_ (fun _ => ?_) ?_ ?_
  rotate_left 2
  ·go_simp
   with_reducible rfl
  ·simp only [Act.put, pA, pB, pC]
   rfl
  refine pu 2 9 (bq 21 7) ?_ ?_ (fun _ => ?_) ?_ ?_
  rotate_left 2
  ·go_simp
   with_reducible rfl
  ·simp only [Act.put, pA, pB, pC]
   rfl
  refine ta 3 10 (bq 21 15) rfl (.agg (tubC X.s X.i (.slice X.A X.n X.c)).toArray) ?_ hHeld (yieldsIf_load_mid (by rfl) 37 (.tmp 9) rfl V 1 rfl (tubC X.s X.i (.slice X.A X.n X.c)) _ (fun _ h => rangeX h.1) Tryz.underlying37 rfl (by kernel_rfl)) ?_ ?_
  rotate_left
  ·simp only [Act.put, pA, pB, pC]
   rfl
  refine pu 4 11 (bq 21 31) ?_ ?_ (fun _ => ?_) ?_ ?_
  rotate_left 2
  ·go_simp
   with_reducible rfl
  ·simp only [Act.put, pA, pB, pC]
   rfl
  refine pu 5 12 (bq 21 63) ?_ ?_ (fun _ => ?_) ?_ ?_
  rotate_left 2
  ·go_simp
   with_reducible rfl
  ·simp only [Act.put, pA, pB, pC]
   rfl
  refine pu 6 13 (bq 21 127) ?_ ?_ (fun _ => ?_) ?_ ?_
  rotate_left 2
  ·go_simp
   with_reducible rfl
  ·simp only [Act.put, pA, pB, pC]
   rfl
  refine ta 7 14 (bq 21 255) rfl (.agg (tubC X.t X.j (.slice X.B X.m X.d)).toArray) ?_ hHeld (yieldsIf_load_mid (by rfl) 37 (.tmp 13) rfl V 15 rfl (tubC X.t X.j (.slice X.B X.m X.d)) _ (fun _ h => rangeY h.1) Tryz.underlying37 rfl (by kernel_rfl)) ?_ ?_
  rotate_left
  ·simp only [Act.put, pA, pB, pC]
   rfl
  refine pu 8 15 (bq 21 511) ?_ ?_ (fun _ => ?_) ?_ ?_
  rotate_left 2
  ·go_simp
   with_reducible rfl
  ·simp only [Act.put, pA, pB, pC]
   rfl
  refine pu 9 16 (bq 21 1023) ?_ ?_ (fun _ => ?_) ?_ ?_
  rotate_left 2
  ·go_simp
   with_reducible rfl
  ·simp only [Act.put, pA, pB, pC]
   rfl
  refine pu 10 17 (bq 21 2047) ?_ ?_ (fun _ => ?_) ?_ ?_
  rotate_left 2
  ·go_simp
   with_reducible rfl
  ·simp only [Act.put, pA, pB, pC]
   rfl
  refine ta 11 18 (bq 21 4095) rfl (.agg #[.i X.g.k, .bool X.g.n, .u X.g.m, .i X.g.e]) ?_ hHeld (yieldsIf_load_mid (by rfl) 32 (.tmp 17) rfl V 29 rfl [.i X.g.k, .bool X.g.n, .u X.g.m, .i X.g.e] _ (fun _ h => rangeG h.1) Tryz.underlying32 rfl (by kernel_rfl)) ?_ ?_
  rotate_left
  ·simp only [Act.put, pA, pB, pC]
   rfl
  refine ta 12 19 (bq 21 8191) rfl (.agg #[.b a0, .i a1, .b a2, .u a3, .i a4, .i a5, .b a6, .u a7, .i a8, .b b0, .i b1, .b b2, .u b3, .i b4, .i b5, .b b6, .u b7, .i b8]) ?_ hHeld (yieldsIf_load_mid (by rfl) 41 (.tmp 2) rfl w1.heap.size 0 rfl [.b a0, .i a1, .b a2, .u a3, .i a4, .i a5, .b a6, .u a7, .i a8, .b b0, .i b1, .b b2, .u b3, .i b4, .i b5, .b b6, .u b7, .i b8] _ (fun _ h => Blk.range h.2 0 _ rfl) Tryz.underlying41 rfl (by kernel_rfl)) ?_ ?_
  rotate_left
  ·simp only [Act.put, pA, pB, pC]
   rfl
  refine on 13 20 (bq 21 16383) (fun K hK => ?_)
  refine goes_ Tryz.func31 (by kernel_rfl) rfl #[.agg (tubC X.s X.i (.slice X.A X.n X.c)).toArray, .agg (tubC X.t X.j (.slice X.B X.m X.d)).toArray, .agg #[.i X.g.k, .bool X.g.n, .u X.g.m, .i X.g.e], .agg #[.b a0, .i a1, .b a2, .u a3, .i a4, .i a5, .b a6, .u a7, .i a8, .b b0, .i b1, .b b2, .u b3, .i b4, .i b5, .b b6, .u b7, .i b8]] (by first | rfl | go_simp) rfl rfl (by simp only [List.map_toArray, List.map_cons, List.map_nil] <;> rfl) ?_
  with_reducible refine (HO.out _ (HK.out.below HBd) (Nat.le_trans hb0 HBd.size)).mono ?_
  rintro e w4 ⟨rfl, hb⟩
  refine ⟨_, rfl, ?_⟩
  replace BV : BlkV _ V X _ vc := BV.call hb
  replace BP := BP.call hb
  replace OP := OP.call hb
  replace OC := OC.call hb
  replace HBd := HBd.trans (hb.mono (Nat.le_trans hb0 HBd.size))
  refine hK.out _ _ ⟨BV, BP⟩ (fun hHeld => ?_)
  clear hK K hb
  refine norm_ (a' := ?_) ?_ ?_
  rotate_left
  ·show Act.put _ (some 20) _ = _
   simp only [Act.put, pA, pB, pC]
   rfl
  refine pu 14 21 (bq 21 32767) ?_ ?_ (fun _ => ?_) ?_ ?_
  rotate_left 2
  ·go_simp
   with_reducible rfl
  ·simp only [Act.put, pA, pB, pC]
   rfl
  refine pu 15 22 (bq 21 65535) ?_ ?_ (fun _ => ?_) ?_ ?_
  rotate_left 2
  ·go_simp
   with_reducible rfl
  ·simp only [Act.put, pA, pB, pC]
   rfl
  refine pu 16 23 (bq 21 131071) ?_ ?_ (fun _ => ?_) ?_ ?_
  rotate_left 2
  ·go_simp
   with_reducible rfl
  ·simp only [Act.put, pA, pB, pC]
   rfl
  refine ta 17 24 (bq 21 262143) rfl (.agg #[.b a0, .i a1, .b a2, .u a3, .i a4, .i a5, .b a6, .u a7, .i a8, .b b0, .i b1, .b b2, .u b3, .i b4, .i b5, .b b6, .u b7, .i b8]) ?_ hHeld (yieldsIf_load_mid (by rfl) 41 (.tmp 2) rfl w1.heap.size 0 rfl [.b a0, .i a1, .b a2, .u a3, .i a4, .i a5, .b a6, .u a7, .i a8, .b b0, .i b1, .b b2, .u b3, .i b4, .i b5, .b b6, .u b7, .i b8] _ (fun _ h => Blk.range h.2 0 _ rfl) Tryz.underlying41 rfl (by kernel_rfl)) ?_ ?_
  rotate_left
  ·simp only [Act.put, pA, pB, pC]
   rfl
  refine last_ (i := 18) (N := some 25) (bq 21 524287) rfl rfl (by kernel_rfl) (by decide) (fun K hK => ?_)
  refine goes_ Tryz.func32 (by kernel_rfl) rfl #[.pointer (some ⟨V, 0, none⟩), .agg #[.b a0, .i a1, .b a2, .u a3, .i a4, .i a5, .b a6, .u a7, .i a8, .b b0, .i b1, .b b2, .u b3, .i b4, .i b5, .b b6, .u b7, .i b8]] (by first | rfl | go_simp) rfl rfl (by simp only [List.map_toArray, List.map_cons, List.map_nil] <;> rfl) ?_
  with_reducible refine (HS.out _ v1 BV OP (Nat.le_trans hb0 HBd.size)).mono ?_
  rintro e w5 ⟨rfl, v5, BV5, OP5, ON5⟩
  refine ⟨_, rfl, ?_⟩
  have KV5 := KpV.of_only ON5 OP hbV (Nat.le_trans hb0 HBd.size)
  have OC5 := OwnC.kpv OC KV5 BV (by decide)
  have BP5 := ON5.blk BP (by rintro (h | h); exact absurd h (by omega); exact absurd (O1.out.lt _ h).2 (by omega))
  have HB5 := HBd.trans KV5.1
  clear KV5 ON5 BV BP OP OC HBd
  refine hK.out _ _ ?_
  clear hK K
  refine norm_ (a' := ?_) ?_ ?_
  rotate_left
  ·show Act.put _ (some 25) _ = _
   simp only [Act.put, pA, pB, pC]
   rfl
  refine pu 19 26 (bq 21 1048575) ?_ ?_ (fun _ => ?_) ?_ ?_
  rotate_left 2
  ·go_simp
   with_reducible rfl
  ·simp only [Act.put, pA, pB, pC]
   rfl
  refine pu 20 27 (bq 21 2097151) ?_ ?_ (fun _ => ?_) ?_ ?_
  rotate_left 2
  ·go_simp
   with_reducible rfl
  ·simp only [Act.put, pA, pB, pC]
   rfl
  refine done_ (by kernel_rfl) ?_
  clear hHeld
  go_wp2_with fail
  replace BV5 : BlkV _ V X v5 vc := BV5.drew
  replace BP5 := BP5.drew
  replace OP5 := OP5.drew
  replace OC5 := OC5.drew
  replace HB5 : Below base w w5.drew := ⟨HB5.os, HB5.tape, HB5.output, HB5.size, HB5.block⟩
  refine start_ (n := 12) (S := fun w' => BlkV w' V X v5 vc ∧ Blk w' w1.heap.size 41 #[.b a0, .i a1, .b a2, .u a3, .i a4, .i a5, .b a6, .u a7, .i a8, .b b0, .i b1, .b b2, .u b3, .i b4, .i b5, .b b6, .u b7, .i b8]) (ds := [11]) (bq 12 0) (by kernel_rfl) rfl rfl ⟨BV5, BP5⟩ (fun hHeld => ?_)
  generalize hWW : World.drew _ = w6 at BV5 BP5 OP5 OC5 HB5 hHeld ⊢
  clear hWW
  refine pu 0 28 (bq 12 1) ?_ ?_ (fun _ => ?_) ?_ ?_
  rotate_left 2
  ·go_simp
   with_reducible rfl
  ·simp only [Act.put, pA, pB, pC]
   rfl
  refine pu 1 29 (bq 12 3) ?_ ?_ (fun _ => ?_) ?_ ?_
  rotate_left 2
  ·go_simp
   with_reducible rfl
  ·simp only [Act.put, pA, pB, pC]
   rfl
  refine pu 2 30 (bq 12 7) ?_ ?_ (fun _ => ?_) ?_ ?_
  rotate_left 2
  ·go_simp
   with_reducible rfl
  ·simp only [Act.put, pA, pB, pC]
   rfl
  refine pu 3 31 (bq 12 15) ?_ ?_ (fun _ => ?_) ?_ ?_
  rotate_left 2
  ·go_simp
   with_reducible rfl
  ·simp only [Act.put, pA, pB, pC]
   rfl
  refine tk 4 32 (bq 12 31) ?_ ?_ ?_ ?_ hHeld ?_
  rotate_left 2
  ·rintro w' ⟨s0_, s1_⟩
   have c37 : w'.cell? ⟨V, 37, none⟩ = some vc := s0_.cell 37
   go_simp
   with_reducible rfl
  ·simp only [Act.put, pA, pB, pC]
   rfl
  refine ta 5 33 (bq 12 63) rfl (.agg #[.b a0, .i a1, .b a2, .u a3, .i a4, .i a5, .b a6, .u a7, .i a8, .b b0, .i b1, .b b2, .u b3, .i b4, .i b5, .b b6, .u b7, .i b8]) ?_ hHeld (yieldsIf_load_mid (by rfl) 41 (.tmp 2) rfl w1.heap.size 0 rfl [.b a0, .i a1, .b a2, .u a3, .i a4, .i a5, .b a6, .u a7, .i a8, .b b0, .i b1, .b b2, .u b3, .i b4, .i b5, .b b6, .u b7, .i b8] _ (fun _ h => Blk.range h.2 0 _ rfl) Tryz.underlying41 rfl (by kernel_rfl)) ?_ ?_
  rotate_left
  ·simp only [Act.put, pA, pB, pC]
   rfl
  refine pu 6 34 (bq 12 127) ?_ ?_ (fun _ => ?_) ?_ ?_
  rotate_left 2
  ·go_simp
   with_reducible rfl
  ·simp only [Act.put, pA, pB, pC]
   rfl
  refine on 7 35 (bq 12 255) (fun K hK => ?_)
  refine value_ (v := ?_) (w1 := ?_) (by rfl) rfl ?_ ?_
  rotate_left 2
  ·go_simp
   first | rfl | (constructor <;> rfl)
  have BS : Blk _ w6.heap.size 43 (List.flatMap clCells [⟨⟨⟨a0, ⟨a1, a2, a3, a4⟩, ⟨a5, a6, a7, a8⟩⟩, ⟨b0, ⟨b1, b2, b3, b4⟩, ⟨b5, b6, b7, b8⟩⟩⟩, 0⟩]).toArray := Blk.new w6 43 #[.b a0, .i a1, .b a2, .u a3, .i a4, .i a5, .b a6, .u a7, .i a8, .b b0, .i b1, .b b2, .u b3, .i b4, .i b5, .b b6, .u b7, .i b8, .i 0]
  have HS1 := SlG.lit clCells_length (by decide) [⟨⟨⟨a0, ⟨a1, a2, a3, a4⟩, ⟨a5, a6, a7, a8⟩⟩, ⟨b0, ⟨b1, b2, b3, b4⟩, ⟨b5, b6, b7, b8⟩⟩⟩, 0⟩] (n := 1) rfl BS BS.lt
  replace BV5 : BlkV _ V X v5 vc := BV5.alloc (.cells #[.b a0, .i a1, .b a2, .u a3, .i a4, .i a5, .b a6, .u a7, .i a8, .b b0, .i b1, .b b2, .u b3, .i b4, .i b5, .b b6, .u b7, .i b8, .i 0] 43)
  replace BP5 := BP5.alloc (.cells #[.b a0, .i a1, .b a2, .u a3, .i a4, .i a5, .b a6, .u a7, .i a8, .b b0, .i b1, .b b2, .u b3, .i b4, .i b5, .b b6, .u b7, .i b8, .i 0] 43)
  replace OP5 := OP5.alloc (.cells #[.b a0, .i a1, .b a2, .u a3, .i a4, .i a5, .b a6, .u a7, .i a8, .b b0, .i b1, .b b2, .u b3, .i b4, .i b5, .b b6, .u b7, .i b8, .i 0] 43)
  replace OC5 := OC5.alloc (.cells #[.b a0, .i a1, .b a2, .u a3, .i a4, .i a5, .b a6, .u a7, .i a8, .b b0, .i b1, .b b2, .u b3, .i b4, .i b5, .b b6, .u b7, .i b8, .i 0] 43)
  replace HB5 := HB5.alloc (Nat.le_trans hb0 HB5.size) (.cells #[.b a0, .i a1, .b a2, .u a3, .i a4, .i a5, .b a6, .u a7, .i a8, .b b0, .i b1, .b b2, .u b3, .i b4, .i b5, .b b6, .u b7, .i b8, .i 0] 43)
  refine hK.out _ _ ⟨BV5, BP5⟩ (fun hHeld => ?_)
  clear hK K
  refine norm_ (a' := ?_) ?_ ?_
  rotate_left
  ·show Act.put _ (some 35) _ = _
   simp only [Act.put, pA, pB, pC]
   rfl
  refine on 8 36 (bq 12 511) (fun K hK => ?_)
  refine step_appC (by rfl) (.tmp 32) (.tmp 35) (by rfl) base vc cs (by rfl) OC5 _ ⟨w6.heap.size, 0, none⟩ 1 1 [⟨⟨⟨a0, ⟨a1, a2, a3, a4⟩, ⟨a5, a6, a7, a8⟩⟩, ⟨b0, ⟨b1, b2, b3, b4⟩, ⟨b5, b6, b7, b8⟩⟩⟩, 0⟩] (by rfl) HS1 (by omega) (Nat.le_trans hb0 HB5.size) ?_
  intro v7 w7 OC7 hg7 hat7
  obtain ⟨A7, n7, c7, rfl⟩ : ∃ A n c, v7 = .slice A n c := (by obtain ⟨A, c, e⟩ := OC7.form; exact ⟨A, _, c, e⟩)
  replace BV5 : BlkV w7 V X v5 vc := BV5.grown hg7 (fun e => by obtain ⟨cur, hcur⟩ := OC5.cells e.symm; exact blk_ne BV5 hcur (by decide) rfl)
  replace BP5 := BP5.grown hg7 (fun e => by obtain ⟨cur, hcur⟩ := OC5.cells e.symm; exact blk_ne BP5 hcur (by decide) rfl)
  replace OP5 := OP5.same (fun g hg => hg7.block g (OP5.lt g hg).2 (fun e => by obtain ⟨cur, hcur⟩ := OC5.cells e.symm; obtain ⟨cur', hcur'⟩ := OP5.cells hg; exact blk_ne hcur' hcur (by decide) rfl))
  replace HB5 := HB5.grown hg7 (Nat.le_trans hb0 HB5.size) (fun k hk => (OC5.lt k hk).1)
  clear OC5 BS HS1 hg7
  refine hK.out _ _ ⟨BV5, BP5⟩ (fun hHeld => ?_)
  clear hK K
  refine norm_ (a' := ?_) ?_ ?_
  rotate_left
  ·show Act.put _ (some 36) _ = _
   simp only [Act.put, pA, pB, pC]
   rfl
  refine pu 9 37 (bq 12 1023) ?_ ?_ (fun _ => ?_) ?_ ?_
  rotate_left 2
  ·go_simp
   with_reducible rfl
  ·simp only [Act.put, pA, pB, pC]
   rfl
  refine pu 10 38 (bq 12 2047) ?_ ?_ (fun _ => ?_) ?_ ?_
  rotate_left 2
  ·go_simp
   with_reducible rfl
  ·simp only [Act.put, pA, pB, pC]
   rfl
  have c37 : w7.cell? ⟨V, 37, none⟩ = some vc := BV5.cell 37
  have f37 : w7.frozen? ⟨V, 37, none⟩ = false := BV5.frozen 37
  refine last_ (i := 11) (N := none) (bq 12 4095) rfl rfl (by kernel_rfl) (by decide) (fun K hK => ?_)
  refine skip_ (w1 := ?_) (by rfl) rfl ?_ ?_
  rotate_left
  ·go_simp
   rfl
  refine hK.out _ _ ?_
  clear hK K
  refine done_ (by kernel_rfl) ?_
  clear hHeld
  go_wp2_with fail
  go_end0
  refine ⟨⟨_, rfl⟩, v5, .slice A7 n7 c7, ?_, ?_, ?_, ?_⟩
  ·have h := BV5.set_ 37 (.slice A7 n7 c7)
   rw [pv_set] at h
   exact h
  ·rw [show lstO none = [] from rfl, List.append_nil] at OP5
   exact OP5.same fun g hg => Below.heap_setCell w7 ⟨V, 37, none⟩ _ g (by obtain ⟨cur, hcur⟩ := OP5.cells hg; exact blk_ne hcur BV5 (by decide))
  ·exact OC7.same fun g hg => Below.heap_setCell w7 ⟨V, 37, none⟩ _ g (by obtain ⟨cur, hcur⟩ := OC7.cells hg; exact blk_ne hcur BV5 (by decide))
  ·exact HB5.setCell (p := ⟨V, 37, none⟩) hbV _
end Go.Proofs.YteabdeohhmbclaaGreat.Wk
