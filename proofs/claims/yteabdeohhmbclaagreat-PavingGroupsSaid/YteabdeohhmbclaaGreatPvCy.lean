import Derived.Test.YteabdeohhmbclaaGreatPvBy
import Derived.Test.YteabdeohhmbclaaGreatPvXy
namespace Go.Proofs.YteabdeohhmbclaaGreat.Wk
open Go.RowKit Go.Proofs.Pl Go.Proofs.YteabdeohhmbclaaGreatW.PrintLast
set_option linter.unusedSimpArgs false
set_option linter.unusedVariables false
def numC (x : Num) : List Value := [.i x.k, .b x.n, .u x.m, .i x.e]
def tubC (s : Num) (i : Iv) (v : Value) : List Value := numC s ++ ivCells i ++ [v]
structure PvX where
 s : Num
 i : Iv
 A : Option Addr
 n : Nat
 c : Nat
 xs : List Slc
 t : Num
 j : Iv
 B : Option Addr
 m : Nat
 d : Nat
 ys : List Slc
 g : Num
 f : Num
def pvRest (X : PvX) (vc : Value) : List Value := tubC X.s X.i (.slice X.A X.n X.c) ++ tubC X.t X.j (.slice X.B X.m X.d) ++ numC X.g ++ numC X.f ++ [vc]
abbrev BlkV (w : World) (V : Nat) (X : PvX) (vs vc : Value) : Prop := Blk w V 57 (vs :: pvRest X vc).toArray
theorem rangeF {w : World} {V : Nat} {X : PvX} {vs vc : Value} (h : BlkV w V X vs vc) : w.rangeAt V 33 [.i X.f.k, .bool X.f.n, .u X.f.m, .i X.f.e] := h.range 33 _ rfl
theorem rangeG {w : World} {V : Nat} {X : PvX} {vs vc : Value} (h : BlkV w V X vs vc) : w.rangeAt V 29 [.i X.g.k, .bool X.g.n, .u X.g.m, .i X.g.e] := h.range 29 _ rfl
theorem rangeX {w : World} {V : Nat} {X : PvX} {vs vc : Value} (h : BlkV w V X vs vc) : w.rangeAt V 1 (tubC X.s X.i (.slice X.A X.n X.c)) := h.range 1 _ rfl
theorem rangeY {w : World} {V : Nat} {X : PvX} {vs vc : Value} (h : BlkV w V X vs vc) : w.rangeAt V 15 (tubC X.t X.j (.slice X.B X.m X.d)) := h.range 15 _ rfl
def KpV (base V : Nat) (w w' : World) : Prop := Below base w w' ∧ ∀ k t cs, Blk w k t cs → k ≠ V → t ≠ 41 → Blk w' k t cs
theorem KpV.of_only {base V : Nat} {w w' : World} {v : Value} {ps : List Pr} (h : Only (fun k => k = V ∨ v.ownBlock = some k) w w') (ho : OwnP w base v ps) (hV : base ≤ V) (hb : base ≤ w.heap.size) : KpV base V w w' := by
 refine ⟨h.below hb fun k hk => ?_, fun k t cs hk h1 h2 => h.blk hk ?_⟩
 ·rcases hk with rfl | hk
  ·exact hV
  ·exact (ho.lt k hk).1
 ·rintro (e | e)
  ·exact h1 e
  ·obtain ⟨cur, hc⟩ := ho.cells e
   exact blk_ne hk hc h2 rfl
theorem OwnC.kpv {base V : Nat} {w w' : World} {v : Value} {cs : List Cl} (ho : OwnC w base v cs) (h : KpV base V w w') {T : TypeId} {vs : Array Value} (hV : Blk w V T vs) (hT : T ≠ 43) : OwnC w' base v cs := ho.same fun g hg => by
 obtain ⟨cur, hc⟩ := ho.cells hg
 exact (h.2 g _ cur hc (blk_ne hc hV (Ne.symm hT)) (by decide)).trans hc.symm
theorem OwnG.kb {α : Type} {f : α → List Value} {k : Nat} {T : TypeId} {w w' : World} {base : Nat} {v : Value} {xs : List α} (h : OwnG f k T w base v xs) (hk : ∀ g cs, Blk w g T cs → v.ownBlock = some g → Blk w' g T cs) : OwnG f k T w' base v xs := h.same fun g hg => by
 obtain ⟨cur, hc⟩ := h.cells hg
 exact (hk g cur hc hg).trans hc.symm
theorem SlG.lit {α : Type} {f : α → List Value} {k : Nat} (hf : ∀ x, (f x).length = k) (hk : 0 < k) {w : World} {g B : Nat} {T : TypeId} (xs : List α) {n : Nat} (hn : xs.length = n) (h : Blk w g T (xs.flatMap f).toArray) (hB : g < B) : SlG f k w B (some ⟨g, 0, none⟩) n xs :=
 SlG.ofFlat hf hk hn hB fun j u hu => by rw [Nat.zero_add, h.cell j]; simpa using hu
def lstO : Option (Pr × Pr) → List Pr
 | none => []
 | some (h, l) => [h, l]
def splL (f : Num) (p : Pr) : List Pr := lstO (splP f p)
def zN : Array Value := #[.i 0, .b false, .u 0, .i 0]
def zI : Array Value := #[.b false, .i 0, .b false, .u 0, .i 0, .i 0, .b false, .u 0, .i 0]
set_option maxRecDepth 100000 in
set_option maxHeartbeats 8000000 in
theorem split_calls (V : Nat) (X : PvX) (vc : Value) (base : Nat) (vs : Value) (ps : List Pr) (a0 : Bool) (a1 : Int) (a2 : Bool) (a3 a4 a5 : Int) (a6 : Bool) (a7 a8 : Int) (b0 : Bool) (b1 : Int) (b2 : Bool) (b3 b4 b5 : Int) (b6 : Bool) (b7 b8 : Int) (w : World) (hV : BlkV w V X vs vc) (ho : OwnP w base vs ps) (hb0 : base ≤ w.heap.size) (hbV : base ≤ V) (wp : WfP ⟨⟨a0, ⟨a1, a2, a3, a4⟩, ⟨a5, a6, a7, a8⟩⟩, ⟨b0, ⟨b1, b2, b3, b4⟩, ⟨b5, b6, b7, b8⟩⟩⟩) (hl : ps.length ≤ 100000) :
  Calls Tryz.prog 32 #[.pointer (some ⟨V, 0, none⟩), .agg #[.b a0, .i a1, .b a2, .u a3, .i a4, .i a5, .b a6, .u a7, .i a8, .b b0, .i b1, .b b2, .u b3, .i b4, .i b5, .b b6, .u b7, .i b8]] w fun e w' => e = .returned (.b (splP X.f ⟨⟨a0, ⟨a1, a2, a3, a4⟩, ⟨a5, a6, a7, a8⟩⟩, ⟨b0, ⟨b1, b2, b3, b4⟩, ⟨b5, b6, b7, b8⟩⟩⟩).isSome) ∧ ∃ v', BlkV w' V X v' vc ∧ OwnP w' base v' (ps ++ splL X.f ⟨⟨a0, ⟨a1, a2, a3, a4⟩, ⟨a5, a6, a7, a8⟩⟩, ⟨b0, ⟨b1, b2, b3, b4⟩, ⟨b5, b6, b7, b8⟩⟩⟩) ∧ Only (fun k => k = V ∨ vs.ownBlock = some k) w w' := by
 have HWA := (fun W => widthI_calls a0 a1 a2 a3 a4 a5 a6 a7 a8 wp.1 W)
 have HWB := (fun W => widthI_calls b0 b1 b2 b3 b4 b5 b6 b7 b8 wp.2 W)
 have HXA := Lib.hid (fun W => splits_calls a0 a1 a2 a3 a4 a5 a6 a7 a8 wp.1 W)
 have HXB := Lib.hid (fun W => splits_calls b0 b1 b2 b3 b4 b5 b6 b7 b8 wp.2 W)
 have HSA := Lib.hid (fun W => splitI_calls a0 a1 a2 a3 a4 a5 a6 a7 a8 wp.1 W)
 have HSB := Lib.hid (fun W => splitI_calls b0 b1 b2 b3 b4 b5 b6 b7 b8 wp.2 W)
 unfold splL splP
 dsimp only
 generalize widthI ⟨a0, ⟨a1, a2, a3, a4⟩, ⟨a5, a6, a7, a8⟩⟩ = e at HWA ⊢
 generalize widthI ⟨b0, ⟨b1, b2, b3, b4⟩, ⟨b5, b6, b7, b8⟩⟩ = f at HWB ⊢
 generalize splitsI ⟨a0, ⟨a1, a2, a3, a4⟩, ⟨a5, a6, a7, a8⟩⟩ = x at HXA ⊢
 generalize splitsI ⟨b0, ⟨b1, b2, b3, b4⟩, ⟨b5, b6, b7, b8⟩⟩ = y at HXB ⊢
 generalize splitA ⟨a0, ⟨a1, a2, a3, a4⟩, ⟨a5, a6, a7, a8⟩⟩ = p at HSA ⊢
 generalize splitB ⟨a0, ⟨a1, a2, a3, a4⟩, ⟨a5, a6, a7, a8⟩⟩ = q at HSA ⊢
 generalize splitA ⟨b0, ⟨b1, b2, b3, b4⟩, ⟨b5, b6, b7, b8⟩⟩ = r at HSB ⊢
 generalize splitB ⟨b0, ⟨b1, b2, b3, b4⟩, ⟨b5, b6, b7, b8⟩⟩ = s at HSB ⊢
 obtain ⟨e0, e1, e2, e3⟩ := e
 obtain ⟨f0, f1, f2, f3⟩ := f
 obtain ⟨p0, ⟨p1, p2, p3, p4⟩, ⟨p5, p6, p7, p8⟩⟩ := p
 obtain ⟨q0, ⟨q1, q2, q3, q4⟩, ⟨q5, q6, q7, q8⟩⟩ := q
 obtain ⟨r0, ⟨r1, r2, r3, r4⟩, ⟨r5, r6, r7, r8⟩⟩ := r
 obtain ⟨s0, ⟨s1, s2, s3, s4⟩, ⟨s5, s6, s7, s8⟩⟩ := s
 have HMo := (fun A W h => mostN_calls A 2 2 [⟨e0, e1, e2, e3⟩, ⟨f0, f1, f2, f3⟩] W h (by omega))
 generalize mostN [⟨e0, e1, e2, e3⟩, ⟨f0, f1, f2, f3⟩] = m at HMo ⊢
 obtain ⟨m0, m1, m2, m3⟩ := m
 have HC := (fun W => cmpN_calls m0 m1 m2 m3 X.f.k X.f.n X.f.m X.f.e W)
 have HD := (fun W => cmpN_calls f0 f1 f2 f3 e0 e1 e2 e3 W)
 rw [show (⟨X.f.k, X.f.n, X.f.m, X.f.e⟩ : Num) = X.f from rfl] at HC
 generalize cmpN ⟨m0, m1, m2, m3⟩ X.f = c at HC ⊢
 generalize cmpN ⟨f0, f1, f2, f3⟩ ⟨e0, e1, e2, e3⟩ = d at HD ⊢
 dsimp only at HWA HWB HMo HC HD ⊢
 replace HWA := Lib.hid HWA
 replace HWB := Lib.hid HWB
 replace HMo := Lib.hid HMo
 replace HC := Lib.hid HC
 replace HD := Lib.hid HD
 clear wp
 obtain ⟨R, hR⟩ : ∃ R, R = (if (decide (c ≤ 0) || (!x && !y)) = true then none else if ((decide (0 < d) && y) || !x) = true then some ((⟨⟨a0, ⟨a1, a2, a3, a4⟩, ⟨a5, a6, a7, a8⟩⟩, ⟨s0, ⟨s1, s2, s3, s4⟩, ⟨s5, s6, s7, s8⟩⟩⟩ : Pr), (⟨⟨a0, ⟨a1, a2, a3, a4⟩, ⟨a5, a6, a7, a8⟩⟩, ⟨r0, ⟨r1, r2, r3, r4⟩, ⟨r5, r6, r7, r8⟩⟩⟩ : Pr)) else some ((⟨⟨q0, ⟨q1, q2, q3, q4⟩, ⟨q5, q6, q7, q8⟩⟩, ⟨b0, ⟨b1, b2, b3, b4⟩, ⟨b5, b6, b7, b8⟩⟩⟩ : Pr), (⟨⟨p0, ⟨p1, p2, p3, p4⟩, ⟨p5, p6, p7, p8⟩⟩, ⟨b0, ⟨b1, b2, b3, b4⟩, ⟨b5, b6, b7, b8⟩⟩⟩ : Pr))) := ⟨_, rfl⟩
 rw [← hR]
 replace hR := Lib.hid hR
 have hVz := hV.lt
 have BV : BlkV _ V X vs vc := hV.alloc (.cells #[.b a0, .i a1, .b a2, .u a3, .i a4, .i a5, .b a6, .u a7, .i a8, .b b0, .i b1, .b b2, .u b3, .i b4, .i b5, .b b6, .u b7, .i b8] 41)
 have BP := Blk.new w 41 #[.b a0, .i a1, .b a2, .u a3, .i a4, .i a5, .b a6, .u a7, .i a8, .b b0, .i b1, .b b2, .u b3, .i b4, .i b5, .b b6, .u b7, .i b8]
 have OP := ho.alloc (.cells #[.b a0, .i a1, .b a2, .u a3, .i a4, .i a5, .b a6, .u a7, .i a8, .b b0, .i b1, .b b2, .u b3, .i b4, .i b5, .b b6, .u b7, .i b8] 41)
 have HBd := bl_alloc (Below.refl w.heap.size w) (.cells #[.b a0, .i a1, .b a2, .u a3, .i a4, .i a5, .b a6, .u a7, .i a8, .b b0, .i b1, .b b2, .u b3, .i b4, .i b5, .b b6, .u b7, .i b8] 41)
 replace OP := Lib.hid OP
 replace BV := Lib.hid BV
 go_enter Tryz.func32, Tryz.ntmps32
 go_wp2_with fail
 replace BV := BV.out.drew
 replace BP := BP.drew
 replace OP := OP.out.drew
 replace HBd := bl_drew HBd
 refine start_ (n := 10) (S := fun w' => Blk w' w.heap.size 41 #[.b a0, .i a1, .b a2, .u a3, .i a4, .i a5, .b a6, .u a7, .i a8, .b b0, .i b1, .b b2, .u b3, .i b4, .i b5, .b b6, .u b7, .i b8]) (ds := [8,9]) (bq 10 0) (by kernel_rfl) rfl rfl BP (fun hHeld => ?_)
 generalize hWW : World.drew _ = w3 at BV BP OP HBd hHeld ⊢
 clear hWW
 refine pu 0 13 (bq 10 1) ?_ ?_ (fun _ => ?_) ?_ ?_
 rotate_left 2
 ·go_simp
  with_reducible rfl
 ·simp only [Act.put, pA, pB, pC]
  rfl
 refine ta 1 14 (bq 10 3) rfl (.agg #[.b a0, .i a1, .b a2, .u a3, .i a4, .i a5, .b a6, .u a7, .i a8]) ?_ hHeld (yieldsIf_load_mid (by rfl) 34 (.tmp 13) rfl w.heap.size 0 rfl [.b a0, .i a1, .b a2, .u a3, .i a4, .i a5, .b a6, .u a7, .i a8] _ (fun _ h => Blk.range h 0 _ rfl) Tryz.underlying34 rfl (by kernel_rfl)) ?_ ?_
 rotate_left
 ·simp only [Act.put, pA, pB, pC]
  rfl
 refine pu 3 16 (bq 10 11) ?_ ?_ (fun _ => ?_) ?_ ?_
 rotate_left 2
 ·go_simp
  with_reducible rfl
 ·simp only [Act.put, pA, pB, pC]
  rfl
 refine ta 4 17 (bq 10 27) rfl (.agg #[.b b0, .i b1, .b b2, .u b3, .i b4, .i b5, .b b6, .u b7, .i b8]) ?_ hHeld (yieldsIf_load_mid (by rfl) 34 (.tmp 16) rfl w.heap.size 9 rfl [.b b0, .i b1, .b b2, .u b3, .i b4, .i b5, .b b6, .u b7, .i b8] _ (fun _ h => Blk.range h 9 _ rfl) Tryz.underlying34 rfl (by kernel_rfl)) ?_ ?_
 rotate_left
 ·simp only [Act.put, pA, pB, pC]
  rfl
 refine join_ (σ := Nat × Nat) 2 (bq 10 255) (fun s => [(15, .agg #[.i e0, .b e1, .u e2, .i e3]), (18, .agg #[.i f0, .b f1, .u f2, .i f3]), (5, .pointer (some ⟨s.1, 0, none⟩)), (6, .pointer (some ⟨s.2, 0, none⟩))]) (fun s w' => (BlkV w' V X vs vc ∧ Blk w' w.heap.size 41 #[.b a0, .i a1, .b a2, .u a3, .i a4, .i a5, .b a6, .u a7, .i a8, .b b0, .i b1, .b b2, .u b3, .i b4, .i b5, .b b6, .u b7, .i b8] ∧ OwnP w' base vs ps ∧ Blk w' s.1 32 zN ∧ Blk w' s.2 32 zN) ∧ (w.heap.size < s.1 ∧ w.heap.size < s.2 ∧ s.1 ≠ s.2) ∧ Below w.heap.size w w') ?_ (fun hJ => ?_)
 ·skip
  rintro ⟨ge, gf⟩ w4 ⟨⟨BV, BP, OP, BE, BF⟩, ⟨h1, h2, h3⟩, HBd⟩
  clear hHeld
  refine norm_ (a' := ?_) ?_ ?_
  rotate_left
  ·simp only [putAll, Act.put, pA, pB, pC]
   rfl
  obtain ⟨⟨q0, q1, q2, q3⟩, ⟨k0, k1, k2, k3⟩⟩ := BE.c4
  obtain ⟨W5, hW5, BE5, hk5, hL5, hs5⟩ := put4 BE (.i e0) (.b e1) (.u e2) (.i e3)
  refine last_ (i := 8) (N := none) (bq 10 511) rfl rfl (by kernel_rfl) (by decide) (fun K hK => ?_)
  refine skip_ (w1 := ?_) (by rfl) rfl ?_ ?_
  rotate_left
  ·go_simp
   rfl
  refine hK.out _ _ ?_
  clear hK K
  clear q0 q1 q2 q3 k0 k1 k2 k3 hW5
  replace BF := hk5 _ _ _ (Ne.symm h3) BF
  replace BP := hk5 _ _ _ (by omega) BP
  replace BV : BlkV W5 V X vs vc := hk5 _ _ _ (by omega) BV
  replace OP := OP.kb fun g cs hc _ => hk5 g _ cs (blk_ne hc BE (by decide)) hc
  replace HBd := hL5 w HBd (by omega)
  clear BE hk5 hL5
  obtain ⟨⟨q0, q1, q2, q3⟩, ⟨k0, k1, k2, k3⟩⟩ := BF.c4
  obtain ⟨W6, hW6, BF6, hk6, hL6, hs6⟩ := put4 BF (.i f0) (.b f1) (.u f2) (.i f3)
  refine last_ (i := 9) (N := none) (bq 10 1023) rfl rfl (by kernel_rfl) (by decide) (fun K hK => ?_)
  refine skip_ (w1 := ?_) (by rfl) rfl ?_ ?_
  rotate_left
  ·go_simp
   rfl
  refine hK.out _ _ ?_
  clear hK K
  clear q0 q1 q2 q3 k0 k1 k2 k3 hW6
  have BE := hk6 _ _ _ h3 BE5
  replace BP := hk6 _ _ _ (by omega) BP
  replace BV : BlkV W6 V X vs vc := hk6 _ _ _ (by omega) BV
  replace OP := OP.kb fun g cs hc _ => hk6 g _ cs (blk_ne hc BF (by decide)) hc
  replace HBd := hL6 w HBd (by omega)
  clear BE5 hk6 hL6 BF hs5 hs6
  have BF := BF6
  clear BF6
  refine done_ (by kernel_rfl) ?_
  go_wp2_with fail
  replace BV : BlkV _ V X vs vc := BV.drew
  replace BP := BP.drew
  replace OP := OP.drew
  replace BE := BE.drew
  replace BF := BF.drew
  replace HBd := bl_drew HBd
  refine start_ (n := 8) (S := fun w' => Blk w' w.heap.size 41 #[.b a0, .i a1, .b a2, .u a3, .i a4, .i a5, .b a6, .u a7, .i a8, .b b0, .i b1, .b b2, .u b3, .i b4, .i b5, .b b6, .u b7, .i b8]) (ds := []) (bq 8 0) (by kernel_rfl) rfl rfl BP (fun hHeld => ?_)
  generalize hWW : World.drew _ = w6 at BV BP OP BE BF HBd hHeld ⊢
  clear hWW
  refine pu 0 19 (bq 8 1) ?_ ?_ (fun _ => ?_) ?_ ?_
  rotate_left 2
  ·go_simp
   with_reducible rfl
  ·simp only [Act.put, pA, pB, pC]
   rfl
  refine ta 1 20 (bq 8 3) rfl (.agg #[.b a0, .i a1, .b a2, .u a3, .i a4, .i a5, .b a6, .u a7, .i a8]) ?_ hHeld (yieldsIf_load_mid (by rfl) 34 (.tmp 19) rfl w.heap.size 0 rfl [.b a0, .i a1, .b a2, .u a3, .i a4, .i a5, .b a6, .u a7, .i a8] _ (fun _ h => Blk.range h 0 _ rfl) Tryz.underlying34 rfl (by kernel_rfl)) ?_ ?_
  rotate_left
  ·simp only [Act.put, pA, pB, pC]
   rfl
  refine pu 3 22 (bq 8 11) ?_ ?_ (fun _ => ?_) ?_ ?_
  rotate_left 2
  ·go_simp
   with_reducible rfl
  ·simp only [Act.put, pA, pB, pC]
   rfl
  refine ta 4 23 (bq 8 27) rfl (.agg #[.b b0, .i b1, .b b2, .u b3, .i b4, .i b5, .b b6, .u b7, .i b8]) ?_ hHeld (yieldsIf_load_mid (by rfl) 34 (.tmp 22) rfl w.heap.size 9 rfl [.b b0, .i b1, .b b2, .u b3, .i b4, .i b5, .b b6, .u b7, .i b8] _ (fun _ h => Blk.range h 9 _ rfl) Tryz.underlying34 rfl (by kernel_rfl)) ?_ ?_
  rotate_left
  ·simp only [Act.put, pA, pB, pC]
   rfl
  refine on 2 21 (bq 8 31) (fun K hK => ?_)
  refine goes_ Tryz.func61 (by kernel_rfl) rfl #[.agg #[.b a0, .i a1, .b a2, .u a3, .i a4, .i a5, .b a6, .u a7, .i a8]] (by first | rfl | go_simp) rfl rfl (by simp only [List.map_toArray, List.map_cons, List.map_nil] <;> rfl) ?_
  with_reducible refine (HXA.out _).mono ?_
  rintro e w7 ⟨rfl, hb⟩
  refine ⟨_, rfl, ?_⟩
  replace BV := BV.call hb
  replace BP := BP.call hb
  replace OP := OP.call hb
  replace BE := BE.call hb
  replace BF := BF.call hb
  replace HBd := bl_trans HBd hb
  refine hK.out _ _ BP (fun hHeld => ?_)
  clear hK K hb
  refine norm_ (a' := ?_) ?_ ?_
  rotate_left
  ·show Act.put _ (some 21) _ = _
   simp only [Act.put, pA, pB, pC]
   rfl
  refine on 5 24 (bq 8 63) (fun K hK => ?_)
  refine goes_ Tryz.func61 (by kernel_rfl) rfl #[.agg #[.b b0, .i b1, .b b2, .u b3, .i b4, .i b5, .b b6, .u b7, .i b8]] (by first | rfl | go_simp) rfl rfl (by simp only [List.map_toArray, List.map_cons, List.map_nil] <;> rfl) ?_
  with_reducible refine (HXB.out _).mono ?_
  rintro e w8 ⟨rfl, hb⟩
  refine ⟨_, rfl, ?_⟩
  replace BV := BV.call hb
  replace BP := BP.call hb
  replace OP := OP.call hb
  replace BE := BE.call hb
  replace BF := BF.call hb
  replace HBd := bl_trans HBd hb
  refine hK.out _ _ BP (fun hHeld => ?_)
  clear hK K hb
  refine norm_ (a' := ?_) ?_ ?_
  rotate_left
  ·show Act.put _ (some 24) _ = _
   simp only [Act.put, pA, pB, pC]
   rfl
  refine pu 6 7 (bq 8 127) ?_ ?_ (fun _ => ?_) ?_ ?_
  rotate_left 2
  ·go_simp
   with_reducible rfl
  ·simp only [Act.put, pA, pB, pC]
   rfl
  refine pu 7 8 (bq 8 255) ?_ ?_ (fun _ => ?_) ?_ ?_
  rotate_left 2
  ·go_simp
   with_reducible rfl
  ·simp only [Act.put, pA, pB, pC]
   rfl
  refine done_ (by kernel_rfl) ?_
  clear hHeld
  go_wp2_with fail
  replace BV : BlkV _ V X vs vc := BV.drew
  replace BP := BP.drew
  replace OP := OP.drew
  replace BE := BE.drew
  replace BF := BF.drew
  replace HBd := bl_drew HBd
  refine start_ (n := 11) (S := fun w' => Blk w' ge 32 #[.i e0, .b e1, .u e2, .i e3] ∧ Blk w' gf 32 #[.i f0, .b f1, .u f2, .i f3] ∧ BlkV w' V X vs vc) (ds := []) (bq 11 0) (by kernel_rfl) rfl rfl ⟨BE, BF, BV⟩ (fun hHeld => ?_)
  generalize hWW : World.drew _ = w6 at BV BP OP BE BF HBd hHeld ⊢
  clear hWW
  refine ta 0 45 (bq 11 1) rfl (.agg #[.i e0, .b e1, .u e2, .i e3]) ?_ hHeld (yieldsIf_load_mid (by rfl) 32 (.tmp 5) rfl ge 0 rfl [.i e0, .b e1, .u e2, .i e3] _ (fun _ h => Blk.range h.1 0 _ rfl) Tryz.underlying32 rfl (by kernel_rfl)) ?_ ?_
  rotate_left
  ·simp only [Act.put, pA, pB, pC]
   rfl
  refine ta 1 46 (bq 11 3) rfl (.agg #[.i f0, .b f1, .u f2, .i f3]) ?_ hHeld (yieldsIf_load_mid (by rfl) 32 (.tmp 6) rfl gf 0 rfl [.i f0, .b f1, .u f2, .i f3] _ (fun _ h => Blk.range h.2.1 0 _ rfl) Tryz.underlying32 rfl (by kernel_rfl)) ?_ ?_
  rotate_left
  ·simp only [Act.put, pA, pB, pC]
   rfl
  refine pu 4 49 (bq 11 19) ?_ ?_ (fun _ => ?_) ?_ ?_
  rotate_left 2
  ·go_simp
   with_reducible rfl
  ·simp only [Act.put, pA, pB, pC]
   rfl
  refine pu 5 50 (bq 11 51) ?_ ?_ (fun _ => ?_) ?_ ?_
  rotate_left 2
  ·go_simp
   with_reducible rfl
  ·simp only [Act.put, pA, pB, pC]
   rfl
  refine pu 6 51 (bq 11 115) ?_ ?_ (fun _ => ?_) ?_ ?_
  rotate_left 2
  ·go_simp
   with_reducible rfl
  ·simp only [Act.put, pA, pB, pC]
   rfl
  refine ta 7 52 (bq 11 243) rfl (.agg #[.i X.f.k, .bool X.f.n, .u X.f.m, .i X.f.e]) ?_ hHeld (yieldsIf_load_mid (by rfl) 32 (.tmp 51) rfl V 33 rfl [.i X.f.k, .bool X.f.n, .u X.f.m, .i X.f.e] _ (fun _ h => rangeF h.2.2) Tryz.underlying32 rfl (by kernel_rfl)) ?_ ?_
  rotate_left
  ·simp only [Act.put, pA, pB, pC]
   rfl
  refine on 2 47 (bq 11 247) (fun K hK => ?_)
  refine value_ (v := ?_) (w1 := ?_) (by rfl) rfl ?_ ?_
  rotate_left 2
  ·go_simp
   first | rfl | (constructor <;> rfl)
  have BL := Blk.new w6 32 #[.i e0, .b e1, .u e2, .i e3, .i f0, .b f1, .u f2, .i f3]
  replace BV := BV.alloc (.cells #[.i e0, .b e1, .u e2, .i e3, .i f0, .b f1, .u f2, .i f3] 32)
  replace BP := BP.alloc (.cells #[.i e0, .b e1, .u e2, .i e3, .i f0, .b f1, .u f2, .i f3] 32)
  replace OP := OP.alloc (.cells #[.i e0, .b e1, .u e2, .i e3, .i f0, .b f1, .u f2, .i f3] 32)
  replace BE := BE.alloc (.cells #[.i e0, .b e1, .u e2, .i e3, .i f0, .b f1, .u f2, .i f3] 32)
  replace BF := BF.alloc (.cells #[.i e0, .b e1, .u e2, .i e3, .i f0, .b f1, .u f2, .i f3] 32)
  replace HBd := bl_alloc HBd (.cells #[.i e0, .b e1, .u e2, .i e3, .i f0, .b f1, .u f2, .i f3] 32)
  refine hK.out _ _ ⟨BE, BF, BV⟩ (fun hHeld => ?_)
  clear hK K
  refine norm_ (a' := ?_) ?_ ?_
  rotate_left
  ·show Act.put _ (some 47) _ = _
   simp only [Act.put, pA, pB, pC]
   rfl
  refine on 3 48 (bq 11 255) (fun K hK => ?_)
  refine goes_ Tryz.func36 (by kernel_rfl) rfl #[.slice (some ⟨w6.heap.size, 0, none⟩) 2 2] (by first | rfl | go_simp) rfl rfl (by simp only [List.map_toArray, List.map_cons, List.map_nil] <;> rfl) ?_
  with_reducible refine (HMo.out _ _ (SlN.two (x := ⟨e0, e1, e2, e3⟩) (y := ⟨f0, f1, f2, f3⟩) BL BL.lt)).mono ?_
  rintro e w9 ⟨rfl, hb⟩
  refine ⟨_, rfl, ?_⟩
  replace BV := BV.call hb
  replace BP := BP.call hb
  replace OP := OP.call hb
  replace BE := BE.call hb
  replace BF := BF.call hb
  replace HBd := bl_trans HBd hb
  clear BL
  refine hK.out _ _ ⟨BE, BF, BV⟩ (fun hHeld => ?_)
  clear hK K hb
  refine norm_ (a' := ?_) ?_ ?_
  rotate_left
  ·show Act.put _ (some 48) _ = _
   simp only [Act.put, pA, pB, pC]
   rfl
  refine on 8 53 (bq 11 511) (fun K hK => ?_)
  refine goes_ Tryz.func28 (by kernel_rfl) rfl #[.agg #[.i m0, .b m1, .u m2, .i m3], .agg #[.i X.f.k, .bool X.f.n, .u X.f.m, .i X.f.e]] (by first | rfl | go_simp) rfl rfl (by simp only [List.map_toArray, List.map_cons, List.map_nil] <;> rfl) ?_
  with_reducible refine (HC.out _).mono ?_
  rintro e w10 ⟨rfl, hb⟩
  refine ⟨_, rfl, ?_⟩
  replace BV := BV.call hb
  replace BP := BP.call hb
  replace OP := OP.call hb
  replace BE := BE.call hb
  replace BF := BF.call hb
  replace HBd := bl_trans HBd hb
  refine hK.out _ _ ⟨BE, BF, BV⟩ (fun hHeld => ?_)
  clear hK K hb
  refine norm_ (a' := ?_) ?_ ?_
  rotate_left
  ·show Act.put _ (some 53) _ = _
   simp only [Act.put, pA, pB, pC]
   rfl
  refine pu 9 54 (bq 11 1023) ?_ ?_ (fun _ => ?_) ?_ ?_
  rotate_left 2
  ·go_simp
   with_reducible rfl
  ·simp only [Act.put, pA, pB, pC]
   rfl
  refine pu 10 44 (bq 11 2047) ?_ ?_ (fun _ => ?_) ?_ ?_
  rotate_left 2
  ·go_simp
   with_reducible rfl
  ·simp only [Act.put, pA, pB, pC]
   rfl
  refine done_ (by kernel_rfl) ?_
  clear hHeld
  generalize decide (c ≤ 0) = qc at hR ⊢
  cases qc
  rotate_left
  ·have hRn := hR.out
   simp at hRn
   subst hRn
   go_wp2_with fail
   go_ret
   exact ⟨by simp, vs, BV, (by rw [show lstO none = [] from rfl, List.append_nil]; exact OP), Only.of_below HBd⟩
  by_cases hxy : x = false ∧ y = false
  ·obtain ⟨rfl, rfl⟩ := hxy
   have hRn := hR.out
   simp at hRn
   subst hRn
   go_wp2_with fail
   go_ret
   exact ⟨by simp, vs, BV, (by rw [show lstO none = [] from rfl, List.append_nil]; exact OP), Only.of_below HBd⟩
  by_cases hB : (x = false ∧ y = true) ∨ (x = true ∧ y = true ∧ 0 < d)
  ·rcases hB with ⟨rfl, rfl⟩ | ⟨rfl, rfl, hd⟩
   all_goals
    clear hxy
    obtain ⟨⟨q0', q1', q2', q3'⟩, _⟩ := BE.c4
    obtain ⟨⟨k0', k1', k2', k3'⟩, _⟩ := BF.c4
    go_wp2_with (first
     | (go_at_call 28; (with_reducible refine (HD.out _).mono ?_); rintro e w11 ⟨rfl, hb⟩; replace BV := BV.call hb; replace BP := BP.call hb; replace OP := OP.call hb; replace BE := BE.call hb; replace BF := BF.call hb; replace HBd := bl_trans HBd hb; clear hb; clear HD q0' q1' q2' q3' k0' k1' k2' k3')
     | (go_at_call 62; (with_reducible refine (HSB.out _).mono ?_); rintro e w12 ⟨rfl, hb⟩; replace BV := BV.call hb; replace BP := BP.call hb; replace OP := OP.call hb; replace BE := BE.call hb; replace BF := BF.call hb; replace HBd := bl_trans HBd hb; clear hb; have gP := BP.lt; have gE := BE.lt; have gF := BF.lt; have gV := BV.lt; have BL := (Blk.new w12 34 zI).alloc (.cells zI 34); have BH := Blk.new1 w12 (.cells zI 34) 34 zI; replace BV : BlkV _ V X vs vc := (BV.alloc (.cells zI 34)).alloc (.cells zI 34); replace BP := (BP.alloc (.cells zI 34)).alloc (.cells zI 34); replace OP := (OP.alloc (.cells zI 34)).alloc (.cells zI 34); replace HBd := bl_alloc (bl_alloc HBd (.cells zI 34)) (.cells zI 34); clear BE BF)
     | (refine wpList_load_mid rfl 34 (.tmp 72) rfl w.heap.size 9 rfl [.b b0, .i b1, .b b2, .u b3, .i b4, .i b5, .b b6, .u b7, .i b8] _ (BP.range 9 _ rfl) Tryz.underlying34 rfl (by kernel_rfl) ?_)
     | (refine wpList_stG rfl 34 (.tmp 9) (.tmp 75) rfl w12.heap.size _ #[.b r0, .i r1, .b r2, .u r3, .i r4, .i r5, .b r6, .u r7, .i r8] BL rfl rfl (by kernel_rfl) rfl (by simp [Value.oneCell']) ?_; intro W13 BL2 P13; replace BH := P13.blk BH (by omega); replace BP := P13.blk BP (by omega); replace OP := OP.kb (fun g cs hc _ => P13.blk hc (blk_ne hc BL (by decide))); replace HBd := P13.bel HBd (by have := HBd.size; simp at this; omega); replace BV : BlkV _ V X vs vc := P13.blk BV (by omega); clear BL)
     | (refine wpList_stG rfl 34 (.tmp 10) (.tmp 76) rfl (w12.heap.size + 1) _ #[.b s0, .i s1, .b s2, .u s3, .i s4, .i s5, .b s6, .u s7, .i s8] BH rfl rfl (by kernel_rfl) rfl (by simp [Value.oneCell']) ?_; intro W14 BH2 P14; replace BL2 := P14.blk BL2 (by omega); replace BP := P14.blk BP (by omega); replace OP := OP.kb (fun g cs hc _ => P14.blk hc (blk_ne hc BH (by decide))); replace HBd := P14.bel HBd (by omega); replace BV : BlkV _ V X vs vc := P14.blk BV (by omega); clear BH))
    all_goals
     replace BV : BlkV _ V X vs vc := BV.drew
     replace BP := BP.drew
     replace OP := OP.drew
     replace BL2 := BL2.drew
     replace BH2 := BH2.drew
     replace HBd := bl_drew HBd
     refine start_ (n := 13) (S := fun w' => Blk w' w.heap.size 41 #[.b a0, .i a1, .b a2, .u a3, .i a4, .i a5, .b a6, .u a7, .i a8, .b b0, .i b1, .b b2, .u b3, .i b4, .i b5, .b b6, .u b7, .i b8] ∧ Blk w' w12.heap.size 34 #[.b r0, .i r1, .b r2, .u r3, .i r4, .i r5, .b r6, .u r7, .i r8] ∧ Blk w' (w12.heap.size + 1) 34 #[.b s0, .i s1, .b s2, .u s3, .i s4, .i s5, .b s6, .u s7, .i s8]) (ds := [12]) (bq 13 0) (by kernel_rfl) rfl rfl ⟨BP, BL2, BH2⟩ (fun hHeld => ?_)
     generalize hWW : World.drew _ = w15 at BV BP OP BL2 BH2 HBd hHeld ⊢
     clear hWW
     refine pu 0 77 (bq 13 1) ?_ ?_ (fun _ => ?_) ?_ ?_
     rotate_left 2
     ·go_simp
      with_reducible rfl
     ·simp only [Act.put, pA, pB, pC]
      rfl
     refine pu 1 78 (bq 13 3) ?_ ?_ (fun _ => ?_) ?_ ?_
     rotate_left 2
     ·go_simp
      with_reducible rfl
     ·simp only [Act.put, pA, pB, pC]
      rfl
     refine pu 2 79 (bq 13 7) ?_ ?_ (fun _ => ?_) ?_ ?_
     rotate_left 2
     ·go_simp
      with_reducible rfl
     ·simp only [Act.put, pA, pB, pC]
      rfl
     refine pu 3 80 (bq 13 15) ?_ ?_ (fun _ => ?_) ?_ ?_
     rotate_left 2
     ·go_simp
      with_reducible rfl
     ·simp only [Act.put, pA, pB, pC]
      rfl
     refine ta 4 81 (bq 13 31) rfl (.agg #[.b a0, .i a1, .b a2, .u a3, .i a4, .i a5, .b a6, .u a7, .i a8]) ?_ hHeld (yieldsIf_load_mid (by rfl) 34 (.tmp 80) rfl w.heap.size 0 rfl [.b a0, .i a1, .b a2, .u a3, .i a4, .i a5, .b a6, .u a7, .i a8] _ (fun _ h => Blk.range h.1 0 _ rfl) Tryz.underlying34 rfl (by kernel_rfl)) ?_ ?_
     rotate_left
     ·simp only [Act.put, pA, pB, pC]
      rfl
     refine ta 5 82 (bq 13 63) rfl (.agg #[.b s0, .i s1, .b s2, .u s3, .i s4, .i s5, .b s6, .u s7, .i s8]) ?_ hHeld (yieldsIf_load_mid (by rfl) 34 (.tmp 10) rfl (w12.heap.size + 1) 0 rfl [.b s0, .i s1, .b s2, .u s3, .i s4, .i s5, .b s6, .u s7, .i s8] _ (fun _ h => Blk.range h.2.2 0 _ rfl) Tryz.underlying34 rfl (by kernel_rfl)) ?_ ?_
     rotate_left
     ·simp only [Act.put, pA, pB, pC]
      rfl
     refine pu 6 83 (bq 13 127) ?_ ?_ (fun _ => ?_) ?_ ?_
     rotate_left 2
     ·go_simp
      with_reducible rfl
     ·simp only [Act.put, pA, pB, pC]
      rfl
     refine pu 7 84 (bq 13 255) ?_ ?_ (fun _ => ?_) ?_ ?_
     rotate_left 2
     ·go_simp
      with_reducible rfl
     ·simp only [Act.put, pA, pB, pC]
      rfl
     refine ta 8 85 (bq 13 511) rfl (.agg #[.b a0, .i a1, .b a2, .u a3, .i a4, .i a5, .b a6, .u a7, .i a8]) ?_ hHeld (yieldsIf_load_mid (by rfl) 34 (.tmp 84) rfl w.heap.size 0 rfl [.b a0, .i a1, .b a2, .u a3, .i a4, .i a5, .b a6, .u a7, .i a8] _ (fun _ h => Blk.range h.1 0 _ rfl) Tryz.underlying34 rfl (by kernel_rfl)) ?_ ?_
     rotate_left
     ·simp only [Act.put, pA, pB, pC]
      rfl
     refine ta 9 86 (bq 13 1023) rfl (.agg #[.b r0, .i r1, .b r2, .u r3, .i r4, .i r5, .b r6, .u r7, .i r8]) ?_ hHeld (yieldsIf_load_mid (by rfl) 34 (.tmp 9) rfl w12.heap.size 0 rfl [.b r0, .i r1, .b r2, .u r3, .i r4, .i r5, .b r6, .u r7, .i r8] _ (fun _ h => Blk.range h.2.1 0 _ rfl) Tryz.underlying34 rfl (by kernel_rfl)) ?_ ?_
     rotate_left
     ·simp only [Act.put, pA, pB, pC]
      rfl
     refine pu 10 87 (bq 13 2047) ?_ ?_ (fun _ => ?_) ?_ ?_
     rotate_left 2
     ·go_simp
      with_reducible rfl
     ·simp only [Act.put, pA, pB, pC]
      rfl
     refine on 11 88 (bq 13 4095) (fun K hK => ?_)
     refine value_ (v := ?_) (w1 := ?_) (by rfl) rfl ?_ ?_
     rotate_left 2
     ·go_simp
      first | rfl | (constructor <;> rfl)
     have BS : Blk _ w15.heap.size 41 (List.flatMap prCells [⟨⟨a0, ⟨a1, a2, a3, a4⟩, ⟨a5, a6, a7, a8⟩⟩, ⟨s0, ⟨s1, s2, s3, s4⟩, ⟨s5, s6, s7, s8⟩⟩⟩, ⟨⟨a0, ⟨a1, a2, a3, a4⟩, ⟨a5, a6, a7, a8⟩⟩, ⟨r0, ⟨r1, r2, r3, r4⟩, ⟨r5, r6, r7, r8⟩⟩⟩]).toArray := Blk.new w15 41 #[.b a0, .i a1, .b a2, .u a3, .i a4, .i a5, .b a6, .u a7, .i a8, .b s0, .i s1, .b s2, .u s3, .i s4, .i s5, .b s6, .u s7, .i s8, .b a0, .i a1, .b a2, .u a3, .i a4, .i a5, .b a6, .u a7, .i a8, .b r0, .i r1, .b r2, .u r3, .i r4, .i r5, .b r6, .u r7, .i r8]
     replace BV : BlkV _ V X vs vc := BV.alloc (.cells #[.b a0, .i a1, .b a2, .u a3, .i a4, .i a5, .b a6, .u a7, .i a8, .b s0, .i s1, .b s2, .u s3, .i s4, .i s5, .b s6, .u s7, .i s8, .b a0, .i a1, .b a2, .u a3, .i a4, .i a5, .b a6, .u a7, .i a8, .b r0, .i r1, .b r2, .u r3, .i r4, .i r5, .b r6, .u r7, .i r8] 41)
     replace BP := BP.alloc (.cells #[.b a0, .i a1, .b a2, .u a3, .i a4, .i a5, .b a6, .u a7, .i a8, .b s0, .i s1, .b s2, .u s3, .i s4, .i s5, .b s6, .u s7, .i s8, .b a0, .i a1, .b a2, .u a3, .i a4, .i a5, .b a6, .u a7, .i a8, .b r0, .i r1, .b r2, .u r3, .i r4, .i r5, .b r6, .u r7, .i r8] 41)
     replace OP := OP.alloc (.cells #[.b a0, .i a1, .b a2, .u a3, .i a4, .i a5, .b a6, .u a7, .i a8, .b s0, .i s1, .b s2, .u s3, .i s4, .i s5, .b s6, .u s7, .i s8, .b a0, .i a1, .b a2, .u a3, .i a4, .i a5, .b a6, .u a7, .i a8, .b r0, .i r1, .b r2, .u r3, .i r4, .i r5, .b r6, .u r7, .i r8] 41)
     replace BL2 := BL2.alloc (.cells #[.b a0, .i a1, .b a2, .u a3, .i a4, .i a5, .b a6, .u a7, .i a8, .b s0, .i s1, .b s2, .u s3, .i s4, .i s5, .b s6, .u s7, .i s8, .b a0, .i a1, .b a2, .u a3, .i a4, .i a5, .b a6, .u a7, .i a8, .b r0, .i r1, .b r2, .u r3, .i r4, .i r5, .b r6, .u r7, .i r8] 41)
     replace BH2 := BH2.alloc (.cells #[.b a0, .i a1, .b a2, .u a3, .i a4, .i a5, .b a6, .u a7, .i a8, .b s0, .i s1, .b s2, .u s3, .i s4, .i s5, .b s6, .u s7, .i s8, .b a0, .i a1, .b a2, .u a3, .i a4, .i a5, .b a6, .u a7, .i a8, .b r0, .i r1, .b r2, .u r3, .i r4, .i r5, .b r6, .u r7, .i r8] 41)
     replace HBd := bl_alloc HBd (.cells #[.b a0, .i a1, .b a2, .u a3, .i a4, .i a5, .b a6, .u a7, .i a8, .b s0, .i s1, .b s2, .u s3, .i s4, .i s5, .b s6, .u s7, .i s8, .b a0, .i a1, .b a2, .u a3, .i a4, .i a5, .b a6, .u a7, .i a8, .b r0, .i r1, .b r2, .u r3, .i r4, .i r5, .b r6, .u r7, .i r8] 41)
     have HS2 := SlG.lit prCells_length (by decide) [⟨⟨a0, ⟨a1, a2, a3, a4⟩, ⟨a5, a6, a7, a8⟩⟩, ⟨s0, ⟨s1, s2, s3, s4⟩, ⟨s5, s6, s7, s8⟩⟩⟩, ⟨⟨a0, ⟨a1, a2, a3, a4⟩, ⟨a5, a6, a7, a8⟩⟩, ⟨r0, ⟨r1, r2, r3, r4⟩, ⟨r5, r6, r7, r8⟩⟩⟩] (n := 2) rfl BS BS.lt
     refine hK.out _ _ ⟨BP, BL2, BH2⟩ (fun hHeld => ?_)
     clear hK K
     refine norm_ (a' := ?_) ?_ ?_
     rotate_left
     ·show Act.put _ (some 88) _ = _
      simp only [Act.put, pA, pB, pC]
      rfl
     refine last_ (i := 12) (N := some 89) (bq 13 8191) rfl rfl (by kernel_rfl) (by decide) (fun K hK => ?_)
     refine goes_ Tryz.func17 (by kernel_rfl) rfl #[.pointer (some ⟨V, 0, none⟩), .slice (some ⟨w15.heap.size, 0, none⟩) 2 2] (by first | rfl | go_simp) rfl rfl (by simp only [List.map_toArray, List.map_cons, List.map_nil] <;> rfl) ?_
     with_reducible refine (push_calls V (pvRest X vc) 57 (by decide) base vs ps [⟨⟨a0, ⟨a1, a2, a3, a4⟩, ⟨a5, a6, a7, a8⟩⟩, ⟨s0, ⟨s1, s2, s3, s4⟩, ⟨s5, s6, s7, s8⟩⟩⟩, ⟨⟨a0, ⟨a1, a2, a3, a4⟩, ⟨a5, a6, a7, a8⟩⟩, ⟨r0, ⟨r1, r2, r3, r4⟩, ⟨r5, r6, r7, r8⟩⟩⟩] ⟨w15.heap.size, 0, none⟩ 2 2 _ BV OP (Nat.le_trans hb0 HBd.size) HS2 (by omega)).mono ?_
     rintro e w16 ⟨⟨u, rfl⟩, v1, BV1, OP1, ON1⟩
     refine ⟨_, rfl, ?_⟩
     refine hK.out _ _ ?_
     clear hK K
     refine norm_ (a' := ?_) ?_ ?_
     rotate_left
     ·show Act.put _ (some 89) _ = _
      simp only [Act.put, pA, pB, pC]
      rfl
     refine done_ (by kernel_rfl) ?_
     clear hHeld
     go_wp2_with fail
     go_ret
     have hRs := hR.out
     simp [*] at hRs
     try rw [if_neg (show ¬ 0 < d by omega)] at hRs
     subst hRs
     refine ⟨by simp, v1, BV1, OP1, (Only.of_below HBd).trans ON1⟩
  ·have hA : (x = true ∧ y = false) ∨ (x = true ∧ y = true ∧ ¬ 0 < d) := by cases x <;> cases y <;> simp_all
   rcases hA with ⟨rfl, rfl⟩ | ⟨rfl, rfl, hd⟩
   all_goals
    clear hxy hB
    obtain ⟨⟨q0', q1', q2', q3'⟩, _⟩ := BE.c4
    obtain ⟨⟨k0', k1', k2', k3'⟩, _⟩ := BF.c4
    go_wp2_with (first
     | (go_at_call 28; (with_reducible refine (HD.out _).mono ?_); rintro e w11 ⟨rfl, hb⟩; replace BV := BV.call hb; replace BP := BP.call hb; replace OP := OP.call hb; replace BE := BE.call hb; replace BF := BF.call hb; replace HBd := bl_trans HBd hb; clear hb; clear HD q0' q1' q2' q3' k0' k1' k2' k3')
     | (go_at_call 62; (with_reducible refine (HSA.out _).mono ?_); rintro e w12 ⟨rfl, hb⟩; replace BV := BV.call hb; replace BP := BP.call hb; replace OP := OP.call hb; replace BE := BE.call hb; replace BF := BF.call hb; replace HBd := bl_trans HBd hb; clear hb; have gP := BP.lt; have gE := BE.lt; have gF := BF.lt; have gV := BV.lt; have BL := (Blk.new w12 34 zI).alloc (.cells zI 34); have BH := Blk.new1 w12 (.cells zI 34) 34 zI; replace BV : BlkV _ V X vs vc := (BV.alloc (.cells zI 34)).alloc (.cells zI 34); replace BP := (BP.alloc (.cells zI 34)).alloc (.cells zI 34); replace OP := (OP.alloc (.cells zI 34)).alloc (.cells zI 34); replace HBd := bl_alloc (bl_alloc HBd (.cells zI 34)) (.cells zI 34); clear BE BF)
     | (refine wpList_load_mid rfl 34 (.tmp 26) rfl w.heap.size 0 rfl [.b a0, .i a1, .b a2, .u a3, .i a4, .i a5, .b a6, .u a7, .i a8] _ (BP.range 0 _ rfl) Tryz.underlying34 rfl (by kernel_rfl) ?_)
     | (refine wpList_stG rfl 34 (.tmp 11) (.tmp 29) rfl w12.heap.size _ #[.b p0, .i p1, .b p2, .u p3, .i p4, .i p5, .b p6, .u p7, .i p8] BL rfl rfl (by kernel_rfl) rfl (by simp [Value.oneCell']) ?_; intro W13 BL2 P13; replace BH := P13.blk BH (by omega); replace BP := P13.blk BP (by omega); replace OP := OP.kb (fun g cs hc _ => P13.blk hc (blk_ne hc BL (by decide))); replace HBd := P13.bel HBd (by have := HBd.size; simp at this; omega); replace BV : BlkV _ V X vs vc := P13.blk BV (by omega); clear BL)
     | (refine wpList_stG rfl 34 (.tmp 12) (.tmp 30) rfl (w12.heap.size + 1) _ #[.b q0, .i q1, .b q2, .u q3, .i q4, .i q5, .b q6, .u q7, .i q8] BH rfl rfl (by kernel_rfl) rfl (by simp [Value.oneCell']) ?_; intro W14 BH2 P14; replace BL2 := P14.blk BL2 (by omega); replace BP := P14.blk BP (by omega); replace OP := OP.kb (fun g cs hc _ => P14.blk hc (blk_ne hc BH (by decide))); replace HBd := P14.bel HBd (by omega); replace BV : BlkV _ V X vs vc := P14.blk BV (by omega); clear BH))
    all_goals
     replace BV : BlkV _ V X vs vc := BV.drew
     replace BP := BP.drew
     replace OP := OP.drew
     replace BL2 := BL2.drew
     replace BH2 := BH2.drew
     replace HBd := bl_drew HBd
     refine start_ (n := 13) (S := fun w' => Blk w' w.heap.size 41 #[.b a0, .i a1, .b a2, .u a3, .i a4, .i a5, .b a6, .u a7, .i a8, .b b0, .i b1, .b b2, .u b3, .i b4, .i b5, .b b6, .u b7, .i b8] ∧ Blk w' w12.heap.size 34 #[.b p0, .i p1, .b p2, .u p3, .i p4, .i p5, .b p6, .u p7, .i p8] ∧ Blk w' (w12.heap.size + 1) 34 #[.b q0, .i q1, .b q2, .u q3, .i q4, .i q5, .b q6, .u q7, .i q8]) (ds := [12]) (bq 13 0) (by kernel_rfl) rfl rfl ⟨BP, BL2, BH2⟩ (fun hHeld => ?_)
     generalize hWW : World.drew _ = w15 at BV BP OP BL2 BH2 HBd hHeld ⊢
     clear hWW
     refine pu 0 31 (bq 13 1) ?_ ?_ (fun _ => ?_) ?_ ?_
     rotate_left 2
     ·go_simp
      with_reducible rfl
     ·simp only [Act.put, pA, pB, pC]
      rfl
     refine pu 1 32 (bq 13 3) ?_ ?_ (fun _ => ?_) ?_ ?_
     rotate_left 2
     ·go_simp
      with_reducible rfl
     ·simp only [Act.put, pA, pB, pC]
      rfl
     refine pu 2 33 (bq 13 7) ?_ ?_ (fun _ => ?_) ?_ ?_
     rotate_left 2
     ·go_simp
      with_reducible rfl
     ·simp only [Act.put, pA, pB, pC]
      rfl
     refine ta 3 34 (bq 13 15) rfl (.agg #[.b q0, .i q1, .b q2, .u q3, .i q4, .i q5, .b q6, .u q7, .i q8]) ?_ hHeld (yieldsIf_load_mid (by rfl) 34 (.tmp 12) rfl (w12.heap.size + 1) 0 rfl [.b q0, .i q1, .b q2, .u q3, .i q4, .i q5, .b q6, .u q7, .i q8] _ (fun _ h => Blk.range h.2.2 0 _ rfl) Tryz.underlying34 rfl (by kernel_rfl)) ?_ ?_
     rotate_left
     ·simp only [Act.put, pA, pB, pC]
      rfl
     refine pu 4 35 (bq 13 31) ?_ ?_ (fun _ => ?_) ?_ ?_
     rotate_left 2
     ·go_simp
      with_reducible rfl
     ·simp only [Act.put, pA, pB, pC]
      rfl
     refine ta 5 36 (bq 13 63) rfl (.agg #[.b b0, .i b1, .b b2, .u b3, .i b4, .i b5, .b b6, .u b7, .i b8]) ?_ hHeld (yieldsIf_load_mid (by rfl) 34 (.tmp 35) rfl w.heap.size 9 rfl [.b b0, .i b1, .b b2, .u b3, .i b4, .i b5, .b b6, .u b7, .i b8] _ (fun _ h => Blk.range h.1 9 _ rfl) Tryz.underlying34 rfl (by kernel_rfl)) ?_ ?_
     rotate_left
     ·simp only [Act.put, pA, pB, pC]
      rfl
     refine pu 6 37 (bq 13 127) ?_ ?_ (fun _ => ?_) ?_ ?_
     rotate_left 2
     ·go_simp
      with_reducible rfl
     ·simp only [Act.put, pA, pB, pC]
      rfl
     refine ta 7 38 (bq 13 255) rfl (.agg #[.b p0, .i p1, .b p2, .u p3, .i p4, .i p5, .b p6, .u p7, .i p8]) ?_ hHeld (yieldsIf_load_mid (by rfl) 34 (.tmp 11) rfl w12.heap.size 0 rfl [.b p0, .i p1, .b p2, .u p3, .i p4, .i p5, .b p6, .u p7, .i p8] _ (fun _ h => Blk.range h.2.1 0 _ rfl) Tryz.underlying34 rfl (by kernel_rfl)) ?_ ?_
     rotate_left
     ·simp only [Act.put, pA, pB, pC]
      rfl
     refine pu 8 39 (bq 13 511) ?_ ?_ (fun _ => ?_) ?_ ?_
     rotate_left 2
     ·go_simp
      with_reducible rfl
     ·simp only [Act.put, pA, pB, pC]
      rfl
     refine ta 9 40 (bq 13 1023) rfl (.agg #[.b b0, .i b1, .b b2, .u b3, .i b4, .i b5, .b b6, .u b7, .i b8]) ?_ hHeld (yieldsIf_load_mid (by rfl) 34 (.tmp 39) rfl w.heap.size 9 rfl [.b b0, .i b1, .b b2, .u b3, .i b4, .i b5, .b b6, .u b7, .i b8] _ (fun _ h => Blk.range h.1 9 _ rfl) Tryz.underlying34 rfl (by kernel_rfl)) ?_ ?_
     rotate_left
     ·simp only [Act.put, pA, pB, pC]
      rfl
     refine pu 10 41 (bq 13 2047) ?_ ?_ (fun _ => ?_) ?_ ?_
     rotate_left 2
     ·go_simp
      with_reducible rfl
     ·simp only [Act.put, pA, pB, pC]
      rfl
     refine on 11 42 (bq 13 4095) (fun K hK => ?_)
     refine value_ (v := ?_) (w1 := ?_) (by rfl) rfl ?_ ?_
     rotate_left 2
     ·go_simp
      first | rfl | (constructor <;> rfl)
     have BS : Blk _ w15.heap.size 41 (List.flatMap prCells [⟨⟨q0, ⟨q1, q2, q3, q4⟩, ⟨q5, q6, q7, q8⟩⟩, ⟨b0, ⟨b1, b2, b3, b4⟩, ⟨b5, b6, b7, b8⟩⟩⟩, ⟨⟨p0, ⟨p1, p2, p3, p4⟩, ⟨p5, p6, p7, p8⟩⟩, ⟨b0, ⟨b1, b2, b3, b4⟩, ⟨b5, b6, b7, b8⟩⟩⟩]).toArray := Blk.new w15 41 #[.b q0, .i q1, .b q2, .u q3, .i q4, .i q5, .b q6, .u q7, .i q8, .b b0, .i b1, .b b2, .u b3, .i b4, .i b5, .b b6, .u b7, .i b8, .b p0, .i p1, .b p2, .u p3, .i p4, .i p5, .b p6, .u p7, .i p8, .b b0, .i b1, .b b2, .u b3, .i b4, .i b5, .b b6, .u b7, .i b8]
     replace BV : BlkV _ V X vs vc := BV.alloc (.cells #[.b q0, .i q1, .b q2, .u q3, .i q4, .i q5, .b q6, .u q7, .i q8, .b b0, .i b1, .b b2, .u b3, .i b4, .i b5, .b b6, .u b7, .i b8, .b p0, .i p1, .b p2, .u p3, .i p4, .i p5, .b p6, .u p7, .i p8, .b b0, .i b1, .b b2, .u b3, .i b4, .i b5, .b b6, .u b7, .i b8] 41)
     replace BP := BP.alloc (.cells #[.b q0, .i q1, .b q2, .u q3, .i q4, .i q5, .b q6, .u q7, .i q8, .b b0, .i b1, .b b2, .u b3, .i b4, .i b5, .b b6, .u b7, .i b8, .b p0, .i p1, .b p2, .u p3, .i p4, .i p5, .b p6, .u p7, .i p8, .b b0, .i b1, .b b2, .u b3, .i b4, .i b5, .b b6, .u b7, .i b8] 41)
     replace OP := OP.alloc (.cells #[.b q0, .i q1, .b q2, .u q3, .i q4, .i q5, .b q6, .u q7, .i q8, .b b0, .i b1, .b b2, .u b3, .i b4, .i b5, .b b6, .u b7, .i b8, .b p0, .i p1, .b p2, .u p3, .i p4, .i p5, .b p6, .u p7, .i p8, .b b0, .i b1, .b b2, .u b3, .i b4, .i b5, .b b6, .u b7, .i b8] 41)
     replace BL2 := BL2.alloc (.cells #[.b q0, .i q1, .b q2, .u q3, .i q4, .i q5, .b q6, .u q7, .i q8, .b b0, .i b1, .b b2, .u b3, .i b4, .i b5, .b b6, .u b7, .i b8, .b p0, .i p1, .b p2, .u p3, .i p4, .i p5, .b p6, .u p7, .i p8, .b b0, .i b1, .b b2, .u b3, .i b4, .i b5, .b b6, .u b7, .i b8] 41)
     replace BH2 := BH2.alloc (.cells #[.b q0, .i q1, .b q2, .u q3, .i q4, .i q5, .b q6, .u q7, .i q8, .b b0, .i b1, .b b2, .u b3, .i b4, .i b5, .b b6, .u b7, .i b8, .b p0, .i p1, .b p2, .u p3, .i p4, .i p5, .b p6, .u p7, .i p8, .b b0, .i b1, .b b2, .u b3, .i b4, .i b5, .b b6, .u b7, .i b8] 41)
     replace HBd := bl_alloc HBd (.cells #[.b q0, .i q1, .b q2, .u q3, .i q4, .i q5, .b q6, .u q7, .i q8, .b b0, .i b1, .b b2, .u b3, .i b4, .i b5, .b b6, .u b7, .i b8, .b p0, .i p1, .b p2, .u p3, .i p4, .i p5, .b p6, .u p7, .i p8, .b b0, .i b1, .b b2, .u b3, .i b4, .i b5, .b b6, .u b7, .i b8] 41)
     have HS2 := SlG.lit prCells_length (by decide) [⟨⟨q0, ⟨q1, q2, q3, q4⟩, ⟨q5, q6, q7, q8⟩⟩, ⟨b0, ⟨b1, b2, b3, b4⟩, ⟨b5, b6, b7, b8⟩⟩⟩, ⟨⟨p0, ⟨p1, p2, p3, p4⟩, ⟨p5, p6, p7, p8⟩⟩, ⟨b0, ⟨b1, b2, b3, b4⟩, ⟨b5, b6, b7, b8⟩⟩⟩] (n := 2) rfl BS BS.lt
     refine hK.out _ _ ⟨BP, BL2, BH2⟩ (fun hHeld => ?_)
     clear hK K
     refine norm_ (a' := ?_) ?_ ?_
     rotate_left
     ·show Act.put _ (some 42) _ = _
      simp only [Act.put, pA, pB, pC]
      rfl
     refine last_ (i := 12) (N := some 43) (bq 13 8191) rfl rfl (by kernel_rfl) (by decide) (fun K hK => ?_)
     refine goes_ Tryz.func17 (by kernel_rfl) rfl #[.pointer (some ⟨V, 0, none⟩), .slice (some ⟨w15.heap.size, 0, none⟩) 2 2] (by first | rfl | go_simp) rfl rfl (by simp only [List.map_toArray, List.map_cons, List.map_nil] <;> rfl) ?_
     with_reducible refine (push_calls V (pvRest X vc) 57 (by decide) base vs ps [⟨⟨q0, ⟨q1, q2, q3, q4⟩, ⟨q5, q6, q7, q8⟩⟩, ⟨b0, ⟨b1, b2, b3, b4⟩, ⟨b5, b6, b7, b8⟩⟩⟩, ⟨⟨p0, ⟨p1, p2, p3, p4⟩, ⟨p5, p6, p7, p8⟩⟩, ⟨b0, ⟨b1, b2, b3, b4⟩, ⟨b5, b6, b7, b8⟩⟩⟩] ⟨w15.heap.size, 0, none⟩ 2 2 _ BV OP (Nat.le_trans hb0 HBd.size) HS2 (by omega)).mono ?_
     rintro e w16 ⟨⟨u, rfl⟩, v1, BV1, OP1, ON1⟩
     refine ⟨_, rfl, ?_⟩
     refine hK.out _ _ ?_
     clear hK K
     refine norm_ (a' := ?_) ?_ ?_
     rotate_left
     ·show Act.put _ (some 43) _ = _
      simp only [Act.put, pA, pB, pC]
      rfl
     refine done_ (by kernel_rfl) ?_
     clear hHeld
     go_wp2_with fail
     go_ret
     have hRs := hR.out
     simp [*] at hRs
     try rw [if_neg (show ¬ 0 < d by omega)] at hRs
     subst hRs
     refine ⟨by simp, v1, BV1, OP1, (Only.of_below HBd).trans ON1⟩
 ·skip
  have hz0 := BP.lt
  refine three_ (i := 2) (j := 6) (k := 7) (Ni := some 15) (Nj := some 5) (Nk := some 6) (bq 10 31) (bq 10 91) (bq 10 155) rfl rfl rfl rfl rfl rfl (by kernel_rfl) (by decide) (by decide) (by decide) (fun K hK => ?_) (fun K hK => ?_) (fun K hK => ?_)
  ·skip
   refine goes_ Tryz.func60 (by kernel_rfl) rfl #[.agg #[.b a0, .i a1, .b a2, .u a3, .i a4, .i a5, .b a6, .u a7, .i a8]] (by first | rfl | go_simp) rfl rfl (by simp only [List.map_toArray, List.map_cons, List.map_nil] <;> rfl) ?_
   with_reducible refine (HWA.out _).mono ?_
   rintro e wv50 ⟨rfl, hb⟩
   refine ⟨_, rfl, ?_⟩
   replace BV := BV.call hb
   replace BP := BP.call hb
   replace OP := OP.call hb
   replace HBd := bl_trans HBd hb
   have gzwv50 := hb.size
   try simp at gzwv50
   refine hK.out _ _ BP (fun hHeld => ?_)
   clear hK K hb
   refine norm_ (a' := ?_) ?_ ?_
   rotate_left
   ·show Act.put _ (some 15) _ = _
    simp only [Act.put, pA, pB, pC]
    rfl
   refine three_ (i := 5) (j := 6) (k := 7) (Ni := some 18) (Nj := some 5) (Nk := some 6) (bq 10 63) (bq 10 95) (bq 10 159) rfl rfl rfl rfl rfl rfl (by kernel_rfl) (by decide) (by decide) (by decide) (fun K hK => ?_) (fun K hK => ?_) (fun K hK => ?_)
   ·skip
    refine goes_ Tryz.func60 (by kernel_rfl) rfl #[.agg #[.b b0, .i b1, .b b2, .u b3, .i b4, .i b5, .b b6, .u b7, .i b8]] (by first | rfl | go_simp) rfl rfl (by simp only [List.map_toArray, List.map_cons, List.map_nil] <;> rfl) ?_
    with_reducible refine (HWB.out _).mono ?_
    rintro e wv51 ⟨rfl, hb⟩
    refine ⟨_, rfl, ?_⟩
    replace BV := BV.call hb
    replace BP := BP.call hb
    replace OP := OP.call hb
    replace HBd := bl_trans HBd hb
    have gzwv51 := hb.size
    try simp at gzwv51
    refine hK.out _ _ BP (fun hHeld => ?_)
    clear hK K hb
    refine norm_ (a' := ?_) ?_ ?_
    rotate_left
    ·show Act.put _ (some 18) _ = _
     simp only [Act.put, pA, pB, pC]
     rfl
    refine two_ (i := 6) (j := 7) (Ni := some 5) (Nj := some 6) (bq 10 127) (bq 10 191) rfl rfl rfl rfl (by kernel_rfl) (by decide) (by decide) (fun K hK => ?_) (fun K hK => ?_)
    ·skip
     refine value_ (v := ?_) (w1 := ?_) (by rfl) rfl ?_ ?_
     rotate_left 2
     ·go_simp
      first | rfl | (constructor <;> rfl)
     replace BV := BV.alloc (.cells zN 32)
     replace BP := BP.alloc (.cells zN 32)
     replace OP := OP.alloc (.cells zN 32)
     replace HBd := bl_alloc HBd (.cells zN 32)
     have BE := Blk.new wv51  32 zN
     refine hK.out _ _ BP (fun hHeld => ?_)
     clear hK K
     refine norm_ (a' := ?_) ?_ ?_
     rotate_left
     ·show Act.put _ (some 5) _ = _
      simp only [Act.put, pA, pB, pC]
      rfl
     refine on 7 6 (bq 10 255) (fun K hK => ?_)
     refine value_ (v := ?_) (w1 := ?_) (by rfl) rfl ?_ ?_
     rotate_left 2
     ·go_simp
      first | rfl | (constructor <;> rfl)
     replace BV := BV.alloc (.cells zN 32)
     replace BP := BP.alloc (.cells zN 32)
     replace OP := OP.alloc (.cells zN 32)
     replace BE := BE.alloc (.cells zN 32)
     replace HBd := bl_alloc HBd (.cells zN 32)
     have BF := Blk.new1 wv51 (.cells zN 32) 32 zN
     refine hK.out _ _ BP (fun hHeld => ?_)
     exact norm_ (by rfl) (hJ (wv51.heap.size, wv51.heap.size + 1) _ ⟨⟨BV, BP, OP, BE, BF⟩, ⟨by omega, by omega, by omega⟩, HBd⟩)
    ·skip
     refine value_ (v := ?_) (w1 := ?_) (by rfl) rfl ?_ ?_
     rotate_left 2
     ·go_simp
      first | rfl | (constructor <;> rfl)
     replace BV := BV.alloc (.cells zN 32)
     replace BP := BP.alloc (.cells zN 32)
     replace OP := OP.alloc (.cells zN 32)
     replace HBd := bl_alloc HBd (.cells zN 32)
     have BF := Blk.new wv51  32 zN
     refine hK.out _ _ BP (fun hHeld => ?_)
     clear hK K
     refine norm_ (a' := ?_) ?_ ?_
     rotate_left
     ·show Act.put _ (some 6) _ = _
      simp only [Act.put, pA, pB, pC]
      rfl
     refine on 6 5 (bq 10 255) (fun K hK => ?_)
     refine value_ (v := ?_) (w1 := ?_) (by rfl) rfl ?_ ?_
     rotate_left 2
     ·go_simp
      first | rfl | (constructor <;> rfl)
     replace BV := BV.alloc (.cells zN 32)
     replace BP := BP.alloc (.cells zN 32)
     replace OP := OP.alloc (.cells zN 32)
     replace BF := BF.alloc (.cells zN 32)
     replace HBd := bl_alloc HBd (.cells zN 32)
     have BE := Blk.new1 wv51 (.cells zN 32) 32 zN
     refine hK.out _ _ BP (fun hHeld => ?_)
     exact norm_ (by rfl) (hJ (wv51.heap.size + 1, wv51.heap.size) _ ⟨⟨BV, BP, OP, BE, BF⟩, ⟨by omega, by omega, by omega⟩, HBd⟩)
   ·skip
    refine value_ (v := ?_) (w1 := ?_) (by rfl) rfl ?_ ?_
    rotate_left 2
    ·go_simp
     first | rfl | (constructor <;> rfl)
    replace BV := BV.alloc (.cells zN 32)
    replace BP := BP.alloc (.cells zN 32)
    replace OP := OP.alloc (.cells zN 32)
    replace HBd := bl_alloc HBd (.cells zN 32)
    have BE := Blk.new wv50  32 zN
    refine hK.out _ _ BP (fun hHeld => ?_)
    clear hK K
    refine norm_ (a' := ?_) ?_ ?_
    rotate_left
    ·show Act.put _ (some 5) _ = _
     simp only [Act.put, pA, pB, pC]
     rfl
    refine two_ (i := 5) (j := 7) (Ni := some 18) (Nj := some 6) (bq 10 127) (bq 10 223) rfl rfl rfl rfl (by kernel_rfl) (by decide) (by decide) (fun K hK => ?_) (fun K hK => ?_)
    ·skip
     refine goes_ Tryz.func60 (by kernel_rfl) rfl #[.agg #[.b b0, .i b1, .b b2, .u b3, .i b4, .i b5, .b b6, .u b7, .i b8]] (by first | rfl | go_simp) rfl rfl (by simp only [List.map_toArray, List.map_cons, List.map_nil] <;> rfl) ?_
     with_reducible refine (HWB.out _).mono ?_
     rintro e wv51 ⟨rfl, hb⟩
     refine ⟨_, rfl, ?_⟩
     replace BV := BV.call hb
     replace BP := BP.call hb
     replace OP := OP.call hb
     replace BE := BE.call hb
     replace HBd := bl_trans HBd hb
     have gzwv51 := hb.size
     try simp at gzwv51
     refine hK.out _ _ BP (fun hHeld => ?_)
     clear hK K hb
     refine norm_ (a' := ?_) ?_ ?_
     rotate_left
     ·show Act.put _ (some 18) _ = _
      simp only [Act.put, pA, pB, pC]
      rfl
     refine on 7 6 (bq 10 255) (fun K hK => ?_)
     refine value_ (v := ?_) (w1 := ?_) (by rfl) rfl ?_ ?_
     rotate_left 2
     ·go_simp
      first | rfl | (constructor <;> rfl)
     replace BV := BV.alloc (.cells zN 32)
     replace BP := BP.alloc (.cells zN 32)
     replace OP := OP.alloc (.cells zN 32)
     replace BE := BE.alloc (.cells zN 32)
     replace HBd := bl_alloc HBd (.cells zN 32)
     have BF := Blk.new wv51  32 zN
     refine hK.out _ _ BP (fun hHeld => ?_)
     exact norm_ (by rfl) (hJ (wv50.heap.size, wv51.heap.size) _ ⟨⟨BV, BP, OP, BE, BF⟩, ⟨by omega, by omega, by omega⟩, HBd⟩)
    ·skip
     refine value_ (v := ?_) (w1 := ?_) (by rfl) rfl ?_ ?_
     rotate_left 2
     ·go_simp
      first | rfl | (constructor <;> rfl)
     replace BV := BV.alloc (.cells zN 32)
     replace BP := BP.alloc (.cells zN 32)
     replace OP := OP.alloc (.cells zN 32)
     replace BE := BE.alloc (.cells zN 32)
     replace HBd := bl_alloc HBd (.cells zN 32)
     have BF := Blk.new1 wv50 (.cells zN 32) 32 zN
     refine hK.out _ _ BP (fun hHeld => ?_)
     clear hK K
     refine norm_ (a' := ?_) ?_ ?_
     rotate_left
     ·show Act.put _ (some 6) _ = _
      simp only [Act.put, pA, pB, pC]
      rfl
     refine on 5 18 (bq 10 255) (fun K hK => ?_)
     refine goes_ Tryz.func60 (by kernel_rfl) rfl #[.agg #[.b b0, .i b1, .b b2, .u b3, .i b4, .i b5, .b b6, .u b7, .i b8]] (by first | rfl | go_simp) rfl rfl (by simp only [List.map_toArray, List.map_cons, List.map_nil] <;> rfl) ?_
     with_reducible refine (HWB.out _).mono ?_
     rintro e wv51 ⟨rfl, hb⟩
     refine ⟨_, rfl, ?_⟩
     replace BV := BV.call hb
     replace BP := BP.call hb
     replace OP := OP.call hb
     replace BE := BE.call hb
     replace BF := BF.call hb
     replace HBd := bl_trans HBd hb
     have gzwv51 := hb.size
     try simp at gzwv51
     refine hK.out _ _ BP (fun hHeld => ?_)
     exact norm_ (by rfl) (hJ (wv50.heap.size, wv50.heap.size + 1) _ ⟨⟨BV, BP, OP, BE, BF⟩, ⟨by omega, by omega, by omega⟩, HBd⟩)
   ·skip
    refine value_ (v := ?_) (w1 := ?_) (by rfl) rfl ?_ ?_
    rotate_left 2
    ·go_simp
     first | rfl | (constructor <;> rfl)
    replace BV := BV.alloc (.cells zN 32)
    replace BP := BP.alloc (.cells zN 32)
    replace OP := OP.alloc (.cells zN 32)
    replace HBd := bl_alloc HBd (.cells zN 32)
    have BF := Blk.new wv50  32 zN
    refine hK.out _ _ BP (fun hHeld => ?_)
    clear hK K
    refine norm_ (a' := ?_) ?_ ?_
    rotate_left
    ·show Act.put _ (some 6) _ = _
     simp only [Act.put, pA, pB, pC]
     rfl
    refine two_ (i := 5) (j := 6) (Ni := some 18) (Nj := some 5) (bq 10 191) (bq 10 223) rfl rfl rfl rfl (by kernel_rfl) (by decide) (by decide) (fun K hK => ?_) (fun K hK => ?_)
    ·skip
     refine goes_ Tryz.func60 (by kernel_rfl) rfl #[.agg #[.b b0, .i b1, .b b2, .u b3, .i b4, .i b5, .b b6, .u b7, .i b8]] (by first | rfl | go_simp) rfl rfl (by simp only [List.map_toArray, List.map_cons, List.map_nil] <;> rfl) ?_
     with_reducible refine (HWB.out _).mono ?_
     rintro e wv51 ⟨rfl, hb⟩
     refine ⟨_, rfl, ?_⟩
     replace BV := BV.call hb
     replace BP := BP.call hb
     replace OP := OP.call hb
     replace BF := BF.call hb
     replace HBd := bl_trans HBd hb
     have gzwv51 := hb.size
     try simp at gzwv51
     refine hK.out _ _ BP (fun hHeld => ?_)
     clear hK K hb
     refine norm_ (a' := ?_) ?_ ?_
     rotate_left
     ·show Act.put _ (some 18) _ = _
      simp only [Act.put, pA, pB, pC]
      rfl
     refine on 6 5 (bq 10 255) (fun K hK => ?_)
     refine value_ (v := ?_) (w1 := ?_) (by rfl) rfl ?_ ?_
     rotate_left 2
     ·go_simp
      first | rfl | (constructor <;> rfl)
     replace BV := BV.alloc (.cells zN 32)
     replace BP := BP.alloc (.cells zN 32)
     replace OP := OP.alloc (.cells zN 32)
     replace BF := BF.alloc (.cells zN 32)
     replace HBd := bl_alloc HBd (.cells zN 32)
     have BE := Blk.new wv51  32 zN
     refine hK.out _ _ BP (fun hHeld => ?_)
     exact norm_ (by rfl) (hJ (wv51.heap.size, wv50.heap.size) _ ⟨⟨BV, BP, OP, BE, BF⟩, ⟨by omega, by omega, by omega⟩, HBd⟩)
    ·skip
     refine value_ (v := ?_) (w1 := ?_) (by rfl) rfl ?_ ?_
     rotate_left 2
     ·go_simp
      first | rfl | (constructor <;> rfl)
     replace BV := BV.alloc (.cells zN 32)
     replace BP := BP.alloc (.cells zN 32)
     replace OP := OP.alloc (.cells zN 32)
     replace BF := BF.alloc (.cells zN 32)
     replace HBd := bl_alloc HBd (.cells zN 32)
     have BE := Blk.new1 wv50 (.cells zN 32) 32 zN
     refine hK.out _ _ BP (fun hHeld => ?_)
     clear hK K
     refine norm_ (a' := ?_) ?_ ?_
     rotate_left
     ·show Act.put _ (some 5) _ = _
      simp only [Act.put, pA, pB, pC]
      rfl
     refine on 5 18 (bq 10 255) (fun K hK => ?_)
     refine goes_ Tryz.func60 (by kernel_rfl) rfl #[.agg #[.b b0, .i b1, .b b2, .u b3, .i b4, .i b5, .b b6, .u b7, .i b8]] (by first | rfl | go_simp) rfl rfl (by simp only [List.map_toArray, List.map_cons, List.map_nil] <;> rfl) ?_
     with_reducible refine (HWB.out _).mono ?_
     rintro e wv51 ⟨rfl, hb⟩
     refine ⟨_, rfl, ?_⟩
     replace BV := BV.call hb
     replace BP := BP.call hb
     replace OP := OP.call hb
     replace BF := BF.call hb
     replace BE := BE.call hb
     replace HBd := bl_trans HBd hb
     have gzwv51 := hb.size
     try simp at gzwv51
     refine hK.out _ _ BP (fun hHeld => ?_)
     exact norm_ (by rfl) (hJ (wv50.heap.size + 1, wv50.heap.size) _ ⟨⟨BV, BP, OP, BE, BF⟩, ⟨by omega, by omega, by omega⟩, HBd⟩)
  ·skip
   refine value_ (v := ?_) (w1 := ?_) (by rfl) rfl ?_ ?_
   rotate_left 2
   ·go_simp
    first | rfl | (constructor <;> rfl)
   replace BV := BV.alloc (.cells zN 32)
   replace BP := BP.alloc (.cells zN 32)
   replace OP := OP.alloc (.cells zN 32)
   replace HBd := bl_alloc HBd (.cells zN 32)
   have BE := Blk.new w3  32 zN
   refine hK.out _ _ BP (fun hHeld => ?_)
   clear hK K
   refine norm_ (a' := ?_) ?_ ?_
   rotate_left
   ·show Act.put _ (some 5) _ = _
    simp only [Act.put, pA, pB, pC]
    rfl
   refine two_ (i := 2) (j := 7) (Ni := some 15) (Nj := some 6) (bq 10 95) (bq 10 219) rfl rfl rfl rfl (by kernel_rfl) (by decide) (by decide) (fun K hK => ?_) (fun K hK => ?_)
   ·skip
    refine goes_ Tryz.func60 (by kernel_rfl) rfl #[.agg #[.b a0, .i a1, .b a2, .u a3, .i a4, .i a5, .b a6, .u a7, .i a8]] (by first | rfl | go_simp) rfl rfl (by simp only [List.map_toArray, List.map_cons, List.map_nil] <;> rfl) ?_
    with_reducible refine (HWA.out _).mono ?_
    rintro e wv50 ⟨rfl, hb⟩
    refine ⟨_, rfl, ?_⟩
    replace BV := BV.call hb
    replace BP := BP.call hb
    replace OP := OP.call hb
    replace BE := BE.call hb
    replace HBd := bl_trans HBd hb
    have gzwv50 := hb.size
    try simp at gzwv50
    refine hK.out _ _ BP (fun hHeld => ?_)
    clear hK K hb
    refine norm_ (a' := ?_) ?_ ?_
    rotate_left
    ·show Act.put _ (some 15) _ = _
     simp only [Act.put, pA, pB, pC]
     rfl
    refine two_ (i := 5) (j := 7) (Ni := some 18) (Nj := some 6) (bq 10 127) (bq 10 223) rfl rfl rfl rfl (by kernel_rfl) (by decide) (by decide) (fun K hK => ?_) (fun K hK => ?_)
    ·skip
     refine goes_ Tryz.func60 (by kernel_rfl) rfl #[.agg #[.b b0, .i b1, .b b2, .u b3, .i b4, .i b5, .b b6, .u b7, .i b8]] (by first | rfl | go_simp) rfl rfl (by simp only [List.map_toArray, List.map_cons, List.map_nil] <;> rfl) ?_
     with_reducible refine (HWB.out _).mono ?_
     rintro e wv51 ⟨rfl, hb⟩
     refine ⟨_, rfl, ?_⟩
     replace BV := BV.call hb
     replace BP := BP.call hb
     replace OP := OP.call hb
     replace BE := BE.call hb
     replace HBd := bl_trans HBd hb
     have gzwv51 := hb.size
     try simp at gzwv51
     refine hK.out _ _ BP (fun hHeld => ?_)
     clear hK K hb
     refine norm_ (a' := ?_) ?_ ?_
     rotate_left
     ·show Act.put _ (some 18) _ = _
      simp only [Act.put, pA, pB, pC]
      rfl
     refine on 7 6 (bq 10 255) (fun K hK => ?_)
     refine value_ (v := ?_) (w1 := ?_) (by rfl) rfl ?_ ?_
     rotate_left 2
     ·go_simp
      first | rfl | (constructor <;> rfl)
     replace BV := BV.alloc (.cells zN 32)
     replace BP := BP.alloc (.cells zN 32)
     replace OP := OP.alloc (.cells zN 32)
     replace BE := BE.alloc (.cells zN 32)
     replace HBd := bl_alloc HBd (.cells zN 32)
     have BF := Blk.new wv51  32 zN
     refine hK.out _ _ BP (fun hHeld => ?_)
     exact norm_ (by rfl) (hJ (w3.heap.size, wv51.heap.size) _ ⟨⟨BV, BP, OP, BE, BF⟩, ⟨by omega, by omega, by omega⟩, HBd⟩)
    ·skip
     refine value_ (v := ?_) (w1 := ?_) (by rfl) rfl ?_ ?_
     rotate_left 2
     ·go_simp
      first | rfl | (constructor <;> rfl)
     replace BV := BV.alloc (.cells zN 32)
     replace BP := BP.alloc (.cells zN 32)
     replace OP := OP.alloc (.cells zN 32)
     replace BE := BE.alloc (.cells zN 32)
     replace HBd := bl_alloc HBd (.cells zN 32)
     have BF := Blk.new wv50  32 zN
     refine hK.out _ _ BP (fun hHeld => ?_)
     clear hK K
     refine norm_ (a' := ?_) ?_ ?_
     rotate_left
     ·show Act.put _ (some 6) _ = _
      simp only [Act.put, pA, pB, pC]
      rfl
     refine on 5 18 (bq 10 255) (fun K hK => ?_)
     refine goes_ Tryz.func60 (by kernel_rfl) rfl #[.agg #[.b b0, .i b1, .b b2, .u b3, .i b4, .i b5, .b b6, .u b7, .i b8]] (by first | rfl | go_simp) rfl rfl (by simp only [List.map_toArray, List.map_cons, List.map_nil] <;> rfl) ?_
     with_reducible refine (HWB.out _).mono ?_
     rintro e wv51 ⟨rfl, hb⟩
     refine ⟨_, rfl, ?_⟩
     replace BV := BV.call hb
     replace BP := BP.call hb
     replace OP := OP.call hb
     replace BE := BE.call hb
     replace BF := BF.call hb
     replace HBd := bl_trans HBd hb
     have gzwv51 := hb.size
     try simp at gzwv51
     refine hK.out _ _ BP (fun hHeld => ?_)
     exact norm_ (by rfl) (hJ (w3.heap.size, wv50.heap.size) _ ⟨⟨BV, BP, OP, BE, BF⟩, ⟨by omega, by omega, by omega⟩, HBd⟩)
   ·skip
    refine value_ (v := ?_) (w1 := ?_) (by rfl) rfl ?_ ?_
    rotate_left 2
    ·go_simp
     first | rfl | (constructor <;> rfl)
    replace BV := BV.alloc (.cells zN 32)
    replace BP := BP.alloc (.cells zN 32)
    replace OP := OP.alloc (.cells zN 32)
    replace BE := BE.alloc (.cells zN 32)
    replace HBd := bl_alloc HBd (.cells zN 32)
    have BF := Blk.new1 w3 (.cells zN 32) 32 zN
    refine hK.out _ _ BP (fun hHeld => ?_)
    clear hK K
    refine norm_ (a' := ?_) ?_ ?_
    rotate_left
    ·show Act.put _ (some 6) _ = _
     simp only [Act.put, pA, pB, pC]
     rfl
    refine on 2 15 (bq 10 223) (fun K hK => ?_)
    refine goes_ Tryz.func60 (by kernel_rfl) rfl #[.agg #[.b a0, .i a1, .b a2, .u a3, .i a4, .i a5, .b a6, .u a7, .i a8]] (by first | rfl | go_simp) rfl rfl (by simp only [List.map_toArray, List.map_cons, List.map_nil] <;> rfl) ?_
    with_reducible refine (HWA.out _).mono ?_
    rintro e wv50 ⟨rfl, hb⟩
    refine ⟨_, rfl, ?_⟩
    replace BV := BV.call hb
    replace BP := BP.call hb
    replace OP := OP.call hb
    replace BE := BE.call hb
    replace BF := BF.call hb
    replace HBd := bl_trans HBd hb
    have gzwv50 := hb.size
    try simp at gzwv50
    refine hK.out _ _ BP (fun hHeld => ?_)
    clear hK K hb
    refine norm_ (a' := ?_) ?_ ?_
    rotate_left
    ·show Act.put _ (some 15) _ = _
     simp only [Act.put, pA, pB, pC]
     rfl
    refine on 5 18 (bq 10 255) (fun K hK => ?_)
    refine goes_ Tryz.func60 (by kernel_rfl) rfl #[.agg #[.b b0, .i b1, .b b2, .u b3, .i b4, .i b5, .b b6, .u b7, .i b8]] (by first | rfl | go_simp) rfl rfl (by simp only [List.map_toArray, List.map_cons, List.map_nil] <;> rfl) ?_
    with_reducible refine (HWB.out _).mono ?_
    rintro e wv51 ⟨rfl, hb⟩
    refine ⟨_, rfl, ?_⟩
    replace BV := BV.call hb
    replace BP := BP.call hb
    replace OP := OP.call hb
    replace BE := BE.call hb
    replace BF := BF.call hb
    replace HBd := bl_trans HBd hb
    have gzwv51 := hb.size
    try simp at gzwv51
    refine hK.out _ _ BP (fun hHeld => ?_)
    exact norm_ (by rfl) (hJ (w3.heap.size, w3.heap.size + 1) _ ⟨⟨BV, BP, OP, BE, BF⟩, ⟨by omega, by omega, by omega⟩, HBd⟩)
  ·skip
   refine value_ (v := ?_) (w1 := ?_) (by rfl) rfl ?_ ?_
   rotate_left 2
   ·go_simp
    first | rfl | (constructor <;> rfl)
   replace BV := BV.alloc (.cells zN 32)
   replace BP := BP.alloc (.cells zN 32)
   replace OP := OP.alloc (.cells zN 32)
   replace HBd := bl_alloc HBd (.cells zN 32)
   have BF := Blk.new w3  32 zN
   refine hK.out _ _ BP (fun hHeld => ?_)
   clear hK K
   refine norm_ (a' := ?_) ?_ ?_
   rotate_left
   ·show Act.put _ (some 6) _ = _
    simp only [Act.put, pA, pB, pC]
    rfl
   refine two_ (i := 2) (j := 6) (Ni := some 15) (Nj := some 5) (bq 10 159) (bq 10 219) rfl rfl rfl rfl (by kernel_rfl) (by decide) (by decide) (fun K hK => ?_) (fun K hK => ?_)
   ·skip
    refine goes_ Tryz.func60 (by kernel_rfl) rfl #[.agg #[.b a0, .i a1, .b a2, .u a3, .i a4, .i a5, .b a6, .u a7, .i a8]] (by first | rfl | go_simp) rfl rfl (by simp only [List.map_toArray, List.map_cons, List.map_nil] <;> rfl) ?_
    with_reducible refine (HWA.out _).mono ?_
    rintro e wv50 ⟨rfl, hb⟩
    refine ⟨_, rfl, ?_⟩
    replace BV := BV.call hb
    replace BP := BP.call hb
    replace OP := OP.call hb
    replace BF := BF.call hb
    replace HBd := bl_trans HBd hb
    have gzwv50 := hb.size
    try simp at gzwv50
    refine hK.out _ _ BP (fun hHeld => ?_)
    clear hK K hb
    refine norm_ (a' := ?_) ?_ ?_
    rotate_left
    ·show Act.put _ (some 15) _ = _
     simp only [Act.put, pA, pB, pC]
     rfl
    refine two_ (i := 5) (j := 6) (Ni := some 18) (Nj := some 5) (bq 10 191) (bq 10 223) rfl rfl rfl rfl (by kernel_rfl) (by decide) (by decide) (fun K hK => ?_) (fun K hK => ?_)
    ·skip
     refine goes_ Tryz.func60 (by kernel_rfl) rfl #[.agg #[.b b0, .i b1, .b b2, .u b3, .i b4, .i b5, .b b6, .u b7, .i b8]] (by first | rfl | go_simp) rfl rfl (by simp only [List.map_toArray, List.map_cons, List.map_nil] <;> rfl) ?_
     with_reducible refine (HWB.out _).mono ?_
     rintro e wv51 ⟨rfl, hb⟩
     refine ⟨_, rfl, ?_⟩
     replace BV := BV.call hb
     replace BP := BP.call hb
     replace OP := OP.call hb
     replace BF := BF.call hb
     replace HBd := bl_trans HBd hb
     have gzwv51 := hb.size
     try simp at gzwv51
     refine hK.out _ _ BP (fun hHeld => ?_)
     clear hK K hb
     refine norm_ (a' := ?_) ?_ ?_
     rotate_left
     ·show Act.put _ (some 18) _ = _
      simp only [Act.put, pA, pB, pC]
      rfl
     refine on 6 5 (bq 10 255) (fun K hK => ?_)
     refine value_ (v := ?_) (w1 := ?_) (by rfl) rfl ?_ ?_
     rotate_left 2
     ·go_simp
      first | rfl | (constructor <;> rfl)
     replace BV := BV.alloc (.cells zN 32)
     replace BP := BP.alloc (.cells zN 32)
     replace OP := OP.alloc (.cells zN 32)
     replace BF := BF.alloc (.cells zN 32)
     replace HBd := bl_alloc HBd (.cells zN 32)
     have BE := Blk.new wv51  32 zN
     refine hK.out _ _ BP (fun hHeld => ?_)
     exact norm_ (by rfl) (hJ (wv51.heap.size, w3.heap.size) _ ⟨⟨BV, BP, OP, BE, BF⟩, ⟨by omega, by omega, by omega⟩, HBd⟩)
    ·skip
     refine value_ (v := ?_) (w1 := ?_) (by rfl) rfl ?_ ?_
     rotate_left 2
     ·go_simp
      first | rfl | (constructor <;> rfl)
     replace BV := BV.alloc (.cells zN 32)
     replace BP := BP.alloc (.cells zN 32)
     replace OP := OP.alloc (.cells zN 32)
     replace BF := BF.alloc (.cells zN 32)
     replace HBd := bl_alloc HBd (.cells zN 32)
     have BE := Blk.new wv50  32 zN
     refine hK.out _ _ BP (fun hHeld => ?_)
     clear hK K
     refine norm_ (a' := ?_) ?_ ?_
     rotate_left
     ·show Act.put _ (some 5) _ = _
      simp only [Act.put, pA, pB, pC]
      rfl
     refine on 5 18 (bq 10 255) (fun K hK => ?_)
     refine goes_ Tryz.func60 (by kernel_rfl) rfl #[.agg #[.b b0, .i b1, .b b2, .u b3, .i b4, .i b5, .b b6, .u b7, .i b8]] (by first | rfl | go_simp) rfl rfl (by simp only [List.map_toArray, List.map_cons, List.map_nil] <;> rfl) ?_
     with_reducible refine (HWB.out _).mono ?_
     rintro e wv51 ⟨rfl, hb⟩
     refine ⟨_, rfl, ?_⟩
     replace BV := BV.call hb
     replace BP := BP.call hb
     replace OP := OP.call hb
     replace BF := BF.call hb
     replace BE := BE.call hb
     replace HBd := bl_trans HBd hb
     have gzwv51 := hb.size
     try simp at gzwv51
     refine hK.out _ _ BP (fun hHeld => ?_)
     exact norm_ (by rfl) (hJ (wv50.heap.size, w3.heap.size) _ ⟨⟨BV, BP, OP, BE, BF⟩, ⟨by omega, by omega, by omega⟩, HBd⟩)
   ·skip
    refine value_ (v := ?_) (w1 := ?_) (by rfl) rfl ?_ ?_
    rotate_left 2
    ·go_simp
     first | rfl | (constructor <;> rfl)
    replace BV := BV.alloc (.cells zN 32)
    replace BP := BP.alloc (.cells zN 32)
    replace OP := OP.alloc (.cells zN 32)
    replace BF := BF.alloc (.cells zN 32)
    replace HBd := bl_alloc HBd (.cells zN 32)
    have BE := Blk.new1 w3 (.cells zN 32) 32 zN
    refine hK.out _ _ BP (fun hHeld => ?_)
    clear hK K
    refine norm_ (a' := ?_) ?_ ?_
    rotate_left
    ·show Act.put _ (some 5) _ = _
     simp only [Act.put, pA, pB, pC]
     rfl
    refine on 2 15 (bq 10 223) (fun K hK => ?_)
    refine goes_ Tryz.func60 (by kernel_rfl) rfl #[.agg #[.b a0, .i a1, .b a2, .u a3, .i a4, .i a5, .b a6, .u a7, .i a8]] (by first | rfl | go_simp) rfl rfl (by simp only [List.map_toArray, List.map_cons, List.map_nil] <;> rfl) ?_
    with_reducible refine (HWA.out _).mono ?_
    rintro e wv50 ⟨rfl, hb⟩
    refine ⟨_, rfl, ?_⟩
    replace BV := BV.call hb
    replace BP := BP.call hb
    replace OP := OP.call hb
    replace BF := BF.call hb
    replace BE := BE.call hb
    replace HBd := bl_trans HBd hb
    have gzwv50 := hb.size
    try simp at gzwv50
    refine hK.out _ _ BP (fun hHeld => ?_)
    clear hK K hb
    refine norm_ (a' := ?_) ?_ ?_
    rotate_left
    ·show Act.put _ (some 15) _ = _
     simp only [Act.put, pA, pB, pC]
     rfl
    refine on 5 18 (bq 10 255) (fun K hK => ?_)
    refine goes_ Tryz.func60 (by kernel_rfl) rfl #[.agg #[.b b0, .i b1, .b b2, .u b3, .i b4, .i b5, .b b6, .u b7, .i b8]] (by first | rfl | go_simp) rfl rfl (by simp only [List.map_toArray, List.map_cons, List.map_nil] <;> rfl) ?_
    with_reducible refine (HWB.out _).mono ?_
    rintro e wv51 ⟨rfl, hb⟩
    refine ⟨_, rfl, ?_⟩
    replace BV := BV.call hb
    replace BP := BP.call hb
    replace OP := OP.call hb
    replace BF := BF.call hb
    replace BE := BE.call hb
    replace HBd := bl_trans HBd hb
    have gzwv51 := hb.size
    try simp at gzwv51
    refine hK.out _ _ BP (fun hHeld => ?_)
    exact norm_ (by rfl) (hJ (w3.heap.size + 1, w3.heap.size) _ ⟨⟨BV, BP, OP, BE, BF⟩, ⟨by omega, by omega, by omega⟩, HBd⟩)
end Go.Proofs.YteabdeohhmbclaaGreat.Wk
