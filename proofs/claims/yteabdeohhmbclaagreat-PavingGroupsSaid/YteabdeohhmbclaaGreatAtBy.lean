/- Walk: tube.At. -/
import Derived.Test.YteabdeohhmbclaaGreatAtAy
import Derived.Test.YteabdeohhmbclaaGreatGaAy
import Derived.Test.YteabdeohhmbclaaGreatRgUy
import Derived.Test.YteabdeohhmbclaaGreatOpXy
import Derived.Shelf.Abstract
namespace Go.Proofs.YteabdeohhmbclaaGreat.Wk
open Go.RowKit Go.Shelf Go.Proofs.Pl Go.Proofs.YteabdeohhmbclaaGreatW.PrintLast
set_option linter.unusedSimpArgs false
set_option linter.unusedVariables false
attribute [local go_sem] Oper.semAt_some

theorem bel_putObj {n l : Nat} (W : World) (o' : Obj) (hl : n ≤ l) : Below n W (W.putObj l o') := ⟨rfl, rfl, rfl, by simp, fun k hk => World.putObj_heap_other (by omega)⟩
theorem KpG.rec_ {n₀ n₁ Bt B : Nat} (hn : n₀ ≤ B) (hB : Bt < B) (W : World) (l : Nat) (o o' : Obj) (hl : B ≤ l) (h : W.heap[l]? = some o) (hc : o.isCells = false) : KpG n₀ n₁ Bt W (W.putObj l o') :=
 ⟨bel_putObj W o' (by omega), World.putObj_heap_other (by omega), fun g cs _ hb => (World.putObj_heap_other (by intro e; subst e; rw [show W.heap[g]? = _ from hb] at h; cases h; cases hc)).trans hb⟩
theorem KpG.call {n₀ n₁ Bt : Nat} {W W' : World} (h : Below W.heap.size W W') (hn : n₀ ≤ W.heap.size) (hB : Bt < W.heap.size) : KpG n₀ n₁ Bt W W' := ⟨h.mono hn, h.block _ hB, fun _ _ _ hb => hb.call h⟩
theorem keepsFrom_bel {W W' : World} (hb : Below W.heap.size W W') (B : Nat) : KeepsFrom B W W' := ⟨hb.size, fun k o _ hk _ => (hb.block k (Array.getElem?_eq_some_iff.1 hk).1).trans hk⟩
theorem Put.keeps {W W' : World} {g B : Nat} {t : TypeId} {cs : Array Value} (h : Put W W' g) (hb : Blk W g t cs) : KeepsFrom B W W' :=
 ⟨Nat.le_of_eq h.size.symm, fun k o _ hk ho => (h.2.2.2.2 k (by intro e; subst e; rw [show W.heap[k]? = _ from hb] at hk; cases hk; cases ho)).trans hk⟩
theorem Blk.c14 {w : World} {g : Nat} {t : TypeId} {x0 x1 x2 x3 x4 x5 x6 x7 x8 x9 x10 x11 x12 x13 : Value} (h : Blk w g t #[x0, x1, x2, x3, x4, x5, x6, x7, x8, x9, x10, x11, x12, x13]) :
  w.cell? ⟨g, 0, none⟩ = some x0 ∧ w.cell? ⟨g, 1, none⟩ = some x1 ∧ w.cell? ⟨g, 2, none⟩ = some x2 ∧ w.cell? ⟨g, 3, none⟩ = some x3 ∧ w.cell? ⟨g, 4, none⟩ = some x4 ∧ w.cell? ⟨g, 5, none⟩ = some x5 ∧ w.cell? ⟨g, 6, none⟩ = some x6 ∧ w.cell? ⟨g, 7, none⟩ = some x7 ∧ w.cell? ⟨g, 8, none⟩ = some x8 ∧ w.cell? ⟨g, 9, none⟩ = some x9 ∧ w.cell? ⟨g, 10, none⟩ = some x10 ∧ w.cell? ⟨g, 11, none⟩ = some x11 ∧ w.cell? ⟨g, 12, none⟩ = some x12 ∧ w.cell? ⟨g, 13, none⟩ = some x13 :=
 ⟨h.cell 0, h.cell 1, h.cell 2, h.cell 3, h.cell 4, h.cell 5, h.cell 6, h.cell 7, h.cell 8, h.cell 9, h.cell 10, h.cell 11, h.cell 12, h.cell 13⟩
theorem Blk.c13 {w : World} {g : Nat} {t : TypeId} {x0 x1 x2 x3 x4 x5 x6 x7 x8 x9 x10 x11 x12 : Value} (h : Blk w g t #[x0, x1, x2, x3, x4, x5, x6, x7, x8, x9, x10, x11, x12]) :
  w.cell? ⟨g, 0, none⟩ = some x0 ∧ w.cell? ⟨g, 1, none⟩ = some x1 ∧ w.cell? ⟨g, 2, none⟩ = some x2 ∧ w.cell? ⟨g, 3, none⟩ = some x3 ∧ w.cell? ⟨g, 4, none⟩ = some x4 ∧ w.cell? ⟨g, 5, none⟩ = some x5 ∧ w.cell? ⟨g, 6, none⟩ = some x6 ∧ w.cell? ⟨g, 7, none⟩ = some x7 ∧ w.cell? ⟨g, 8, none⟩ = some x8 ∧ w.cell? ⟨g, 9, none⟩ = some x9 ∧ w.cell? ⟨g, 10, none⟩ = some x10 ∧ w.cell? ⟨g, 11, none⟩ = some x11 ∧ w.cell? ⟨g, 12, none⟩ = some x12 :=
 ⟨h.cell 0, h.cell 1, h.cell 2, h.cell 3, h.cell 4, h.cell 5, h.cell 6, h.cell 7, h.cell 8, h.cell 9, h.cell 10, h.cell 11, h.cell 12⟩
theorem at_results (tmps : Array Value) (W : World) (R : Nat) (r0 : Bool) (r1 : Int) (r2 : Bool) (r3 r4 r5 : Int) (r6 : Bool) (r7 r8 : Int) (h4 : tmps.getD 4 undef = .pointer (some ⟨R, 0, none⟩)) (hb0 : Blk W R 34 #[.b r0, .i r1, .b r2, .u r3, .i r4, .i r5, .b r6, .u r7, .i r8]) :
  (results Tryz.f91 tmps).run Tryz.prog W = .ok (.agg #[.b r0, .i r1, .b r2, .u r3, .i r4, .i r5, .b r6, .u r7, .i r8]) W :=
 results_cell_row rfl _ _ R 34 _ (0, 0) _ h4 hb0 Tryz.underlying34 rfl (by kernel_rfl)
theorem all_lit9 (w : World) : Calls Tryz.prog 90 #[] w fun e w' => e = .returned (.agg #[.b false, .i 2, .b true, .u 0, .i 0, .i 2, .b false, .u 0, .i 0]) ∧ Below w.heap.size w w' := allI_calls w
theorem at_found {s : Num} {i : Iv} {xs : List Slc} {x : Num} {k : Nat} (hm : mayT ⟨s, i, xs⟩ = true) (hk : k < xs.length + 1) (hb : ∀ g ∈ gatesL s i xs k, (cmpN x g.2.1 == 0) = false) (h : (cmpN x (gNum s xs k) == 0) = true) : atT s i xs x = gIv i xs k := by
 unfold atT
 rw [if_pos hm, show (gatesL s i xs (xs.length + 1)).find? (fun g => cmpN x g.2.1 == 0) = some (k, gNum s xs k, gIv i xs k) from ?_]
 rw [List.find?_eq_some_iff_getElem]
 have hg : ∀ j (h : j < xs.length + 1), (gatesL s i xs (xs.length + 1))[j]'(by rw [gatesL_length]; exact h) = (j, gNum s xs j, gIv i xs j) := fun j h => by
  unfold gatesL
  simp
 refine ⟨h, k, by rw [gatesL_length]; exact hk, hg k hk, fun j hj => ?_⟩
 have := hb (j, gNum s xs j, gIv i xs j) (by unfold gatesL; rw [List.mem_map]; exact ⟨j, List.mem_range.2 hj, rfl⟩)
 rw [hg j (by omega), this]
 rfl
theorem at_none {s : Num} {i : Iv} {xs : List Slc} {x : Num} (hm : mayT ⟨s, i, xs⟩ = true) (hb : ∀ g ∈ gatesL s i xs (xs.length + 1), (cmpN x g.2.1 == 0) = false) : atT s i xs x = if idxT x xs < 0 ∨ cmpN x s < 0 then allI else (sliceAt xs (idxT x xs).toNat).a := by
 unfold atT
 rw [if_pos hm, show (gatesL s i xs (xs.length + 1)).find? (fun g => cmpN x g.2.1 == 0) = none from ?_]
 rw [List.find?_eq_none]
 intro g hg
 rw [hb g hg]
 simp
theorem idxT_cases (x : Num) (xs : List Slc) : idxT x xs = -1 ∨ ∃ k y, idxT x xs = ((k : Nat) : Int) ∧ xs[k]? = some y := by
 unfold idxT
 cases h : xs.findIdx? (fun y => decide (cmpN x y.e < 0)) with
 | none => exact .inl rfl
 | some k =>
  obtain ⟨hl, _⟩ := List.findIdx?_eq_some_iff_getElem.1 h
  exact .inr ⟨k, _, rfl, List.getElem?_eq_getElem hl⟩
theorem mem_gates_snoc {pre : List (Nat × Num × Iv)} {g : Nat × Num × Iv} {P : (Nat × Num × Iv) → Prop} (h : ∀ g ∈ pre, P g) (hg : P g) : ∀ z ∈ pre ++ [g], P z := fun z hz => by
 rcases List.mem_append.1 hz with h' | h'
 ·exact h z h'
 ·rw [List.mem_singleton.1 h']; exact hg
set_option maxRecDepth 100000 in
set_option maxHeartbeats 8000000 in
theorem at_calls (s0 : Int) (s1 : Bool) (s2 s3 : Int) (i0 : Bool) (i1 : Int) (i2 : Bool) (i3 i4 i5 : Int) (i6 : Bool) (i7 i8 : Int) (A : Option Addr) (n c : Nat) (xs : List Slc) (x0 : Int) (x1 : Bool) (x2 x3 : Int) (w : World) (hs : SlT w w.heap.size A n xs) :
  Calls Tryz.prog 91 #[.agg #[.i s0, .b s1, .u s2, .i s3, .b i0, .i i1, .b i2, .u i3, .i i4, .i i5, .b i6, .u i7, .i i8, .slice A n c], .agg #[.i x0, .b x1, .u x2, .i x3]] w fun e w' => e = .returned (.agg #[.b ((atT ⟨s0, s1, s2, s3⟩ ⟨i0, ⟨i1, i2, i3, i4⟩, ⟨i5, i6, i7, i8⟩⟩ xs ⟨x0, x1, x2, x3⟩)).emp, .i (((atT ⟨s0, s1, s2, s3⟩ ⟨i0, ⟨i1, i2, i3, i4⟩, ⟨i5, i6, i7, i8⟩⟩ xs ⟨x0, x1, x2, x3⟩)).lo).k, .b (((atT ⟨s0, s1, s2, s3⟩ ⟨i0, ⟨i1, i2, i3, i4⟩, ⟨i5, i6, i7, i8⟩⟩ xs ⟨x0, x1, x2, x3⟩)).lo).n, .u (((atT ⟨s0, s1, s2, s3⟩ ⟨i0, ⟨i1, i2, i3, i4⟩, ⟨i5, i6, i7, i8⟩⟩ xs ⟨x0, x1, x2, x3⟩)).lo).m, .i (((atT ⟨s0, s1, s2, s3⟩ ⟨i0, ⟨i1, i2, i3, i4⟩, ⟨i5, i6, i7, i8⟩⟩ xs ⟨x0, x1, x2, x3⟩)).lo).e, .i (((atT ⟨s0, s1, s2, s3⟩ ⟨i0, ⟨i1, i2, i3, i4⟩, ⟨i5, i6, i7, i8⟩⟩ xs ⟨x0, x1, x2, x3⟩)).hi).k, .b (((atT ⟨s0, s1, s2, s3⟩ ⟨i0, ⟨i1, i2, i3, i4⟩, ⟨i5, i6, i7, i8⟩⟩ xs ⟨x0, x1, x2, x3⟩)).hi).n, .u (((atT ⟨s0, s1, s2, s3⟩ ⟨i0, ⟨i1, i2, i3, i4⟩, ⟨i5, i6, i7, i8⟩⟩ xs ⟨x0, x1, x2, x3⟩)).hi).m, .i (((atT ⟨s0, s1, s2, s3⟩ ⟨i0, ⟨i1, i2, i3, i4⟩, ⟨i5, i6, i7, i8⟩⟩ xs ⟨x0, x1, x2, x3⟩)).hi).e]) ∧ Below w.heap.size w w' := by
 refine (callsIn_wide (n := 4)).1 ?_
 refine callsIn_of_wp_marks Tryz.func91 rfl trivial ?_ rfl
 simp only [Tryz.ntmps91, List.size_toArray, List.length_cons, List.length_nil, Nat.reduceAdd, Nat.reduceSub, Array.replicate_succ, Array.replicate_zero, List.push_toArray, List.append_toArray, List.nil_append, List.cons_append]
 have BT := ((Blk.new w 37 #[.i s0, .b s1, .u s2, .i s3, .b i0, .i i1, .b i2, .u i3, .i i4, .i i5, .b i6, .u i7, .i i8, .slice A n c]).alloc (.cells #[.i x0, .b x1, .u x2, .i x3] 32)).alloc (.cells #[.b false, .i 0, .b false, .u 0, .i 0, .i 0, .b false, .u 0, .i 0] 34)
 have BN := (Blk.new1 w (.cells #[.i s0, .b s1, .u s2, .i s3, .b i0, .i i1, .b i2, .u i3, .i i4, .i i5, .b i6, .u i7, .i i8, .slice A n c] 37) 32 #[.i x0, .b x1, .u x2, .i x3]).alloc (.cells #[.b false, .i 0, .b false, .u 0, .i 0, .i 0, .b false, .u 0, .i 0] 34)
 have BR := Blk.new2 w (.cells #[.i s0, .b s1, .u s2, .i s3, .b i0, .i i1, .b i2, .u i3, .i i4, .i i5, .b i6, .u i7, .i i8, .slice A n c] 37) (.cells #[.i x0, .b x1, .u x2, .i x3] 32) 34 #[.b false, .i 0, .b false, .u 0, .i 0, .i 0, .b false, .u 0, .i 0]
 have HB := bl_alloc (bl_alloc (bl_alloc (Below.refl w.heap.size w) (.cells #[.i s0, .b s1, .u s2, .i s3, .b i0, .i i1, .b i2, .u i3, .i i4, .i i5, .b i6, .u i7, .i i8, .slice A n c] 37)) (.cells #[.i x0, .b x1, .u x2, .i x3] 32)) (.cells #[.b false, .i 0, .b false, .u 0, .i 0, .i 0, .b false, .u 0, .i 0] 34)
 have HM := Lib.hid (fun W h => tmay_calls s0 s1 s2 s3 i0 i1 i2 i3 i4 i5 i6 i7 i8 A n c xs W h)
 cases hm : mayT ⟨⟨s0, s1, s2, s3⟩, ⟨i0, ⟨i1, i2, i3, i4⟩, ⟨i5, i6, i7, i8⟩⟩, xs⟩
 ·rw [hm] at HM
  have hr : atT ⟨s0, s1, s2, s3⟩ ⟨i0, ⟨i1, i2, i3, i4⟩, ⟨i5, i6, i7, i8⟩⟩ xs ⟨x0, x1, x2, x3⟩ = noneI := by unfold atT; rw [hm]; rfl
  rw [hr]
  gi_wp2_with (first
   | (refine ⟨trivial, ?_⟩; gi_at_call 14; refine (callsIn_wide.2 (HM.out _ (hs.on HB))).mono ?_; rintro e w1 ⟨rfl, hb⟩; have BR1 := BR.call hb; have HB1 := bl_trans HB hb)
   | (refine ⟨trivial, ?_⟩; gi_at_call 35; refine (callsIn_wide.2 (none_lit9 _)).mono ?_; rintro e w2 ⟨rfl, hb2⟩; have BR2 := BR1.call hb2; have HB2 := bl_trans HB1 hb2)
   | (refine wpListIn_storeM rfl 34 (.tmp 4) (.tmp 11) rfl (w.heap.size + 2) _ _ BR2 rfl rfl (by kernel_rfl) rfl (by simp [Value.oneCell']) ?_; intro W3 B3 P3))
  exact ⟨_, at_results _ _ (w.heap.size + 2) _ _ _ _ _ _ _ _ _ rfl B3, rfl, P3.bel HB2 (by omega)⟩
 ·rw [hm] at HM
  have hn64 : n ≤ 64 := by
   have h := hm
   unfold mayT at h
   simp only [Bool.and_eq_true, decide_eq_true_eq] at h
   have := hs.1
   have := h.1.2
   omega
  gi_wp2_with (first
   | (refine ⟨trivial, ?_⟩; gi_at_call 14; refine (callsIn_wide.2 (HM.out _ (hs.on HB))).mono ?_; rintro e w1 ⟨rfl, hb⟩; have BT1 := BT.call hb; have BN1 := BN.call hb; have BR1 := BR.call hb; have HB1 := bl_trans HB hb; obtain ⟨t0, t1, t2, t3, t4, t5, t6, t7, t8, t9, t10, t11, t12, t13⟩ := BT1.c14; clear hb)
   | (refine ⟨trivial, ?_⟩; gi_at_call 92; refine (callsIn_wide.2 (gates_calls s0 s1 s2 s3 i0 i1 i2 i3 i4 i5 i6 i7 i8 A n c _)).mono ?_; rintro e w2 ⟨rfl, rfl⟩))
  clear t0 t1 t2 t3 t4 t5 t6 t7 t8 t9 t10 t11 t12 t13
  have BX := Blk.new w1 37 #[.i s0, .b s1, .u s2, .i s3, .b i0, .i i1, .b i2, .u i3, .i i4, .i i5, .b i6, .u i7, .i i8, .slice A n c]
  have BT2 := BT1.alloc (.cells #[.i s0, .b s1, .u s2, .i s3, .b i0, .i i1, .b i2, .u i3, .i i4, .i i5, .b i6, .u i7, .i i8, .slice A n c] 37)
  have BN2 := BN1.alloc (.cells #[.i s0, .b s1, .u s2, .i s3, .b i0, .i i1, .b i2, .u i3, .i i4, .i i5, .b i6, .u i7, .i i8, .slice A n c] 37)
  have BR2 := BR1.alloc (.cells #[.i s0, .b s1, .u s2, .i s3, .b i0, .i i1, .b i2, .u i3, .i i4, .i i5, .b i6, .u i7, .i i8, .slice A n c] 37)
  have HB2 := bl_alloc HB1 (.cells #[.i s0, .b s1, .u s2, .i s3, .b i0, .i i1, .b i2, .u i3, .i i4, .i i5, .b i6, .u i7, .i i8, .slice A n c] 37)
  have hRN : w.heap.size + 2 < w1.heap.size := BR1.lt
  have hsz : (w1.alloc (.cells #[.i s0, .b s1, .u s2, .i s3, .b i0, .i i1, .b i2, .u i3, .i i4, .i i5, .b i6, .u i7, .i i8, .slice A n c] 37)).heap.size = w1.heap.size + 1 := by simp
  obtain ⟨W0, hW0⟩ : ∃ W0, w1.alloc (.cells #[.i s0, .b s1, .u s2, .i s3, .b i0, .i i1, .b i2, .u i3, .i i4, .i i5, .b i6, .u i7, .i i8, .slice A n c] 37) = W0 := ⟨_, rfl⟩
  rw [hW0] at BX BT2 BN2 BR2 HB2 hsz ⊢
  have hs2 := hs.below HB2
  clear hW0 BT1 BN1 BR1 HB1 BT BN BR HB HM
  generalize hN : w1.heap.size = N at BX hsz hRN ⊢
  clear hN
  refine rangeT rfl (by omega) (gf := 102) (lb := #[.pointer (some ⟨N, 0, none⟩)]) rfl trivial (enters_of Tryz.func102 (by kernel_rfl) rfl)
   (gates_stops 3 (by omega) N w.heap.size W0.heap.size n c A xs s0 s1 s2 s3 i0 i1 i2 i3 i4 i5 i6 i7 i8 hn64 W0 BX HB2.size (Nat.le_refl _) hs2) (fun h k => KpG.trans h k)
   (fun W l o o' hl h1 h2 => KpG.rec_ HB2.size (by omega) W l o o' hl h1 h2) (fun _ => rfl)
   (fun pre W => (Blk W w.heap.size 37 #[.i s0, .b s1, .u s2, .i s3, .b i0, .i i1, .b i2, .u i3, .i i4, .i i5, .b i6, .u i7, .i i8, .slice A n c] ∧ Blk W (w.heap.size + 1) 32 #[.i x0, .b x1, .u x2, .i x3] ∧ Blk W (w.heap.size + 2) 34 #[.b false, .i 0, .b false, .u 0, .i 0, .i 0, .b false, .u 0, .i 0] ∧ Blk W N 37 #[.i s0, .b s1, .u s2, .i s3, .b i0, .i i1, .b i2, .u i3, .i i4, .i i5, .b i6, .u i7, .i i8, .slice A n c]) ∧ Below w.heap.size w W ∧ (∀ g ∈ pre, (cmpN ⟨x0, x1, x2, x3⟩ g.2.1 == 0) = false))
   (fun c pre W => (∃ r : Iv, Blk W (w.heap.size + 2) 34 (ivCells r).toArray ∧ ∃ (l : List (Nat × Num × Iv)) (k : Nat) (u : Num), pre = l ++ [(k, u, r)] ∧ (∀ g ∈ l, (cmpN ⟨x0, x1, x2, x3⟩ g.2.1 == 0) = false) ∧ (cmpN ⟨x0, x1, x2, x3⟩ u == 0) = true) ∧ Below w.heap.size w W ∧ c = .ret)
   ?hI ?hIx ?h0
   (fun x a' W => ∃ P, N < P ∧ Blk W P 122 (gateCells x.2.1 x.2.2).toArray ∧ a' = { tmps := #[.agg #[.i s0, .b s1, .u s2, .i s3, .b i0, .i i1, .b i2, .u i3, .i i4, .i i5, .b i6, .u i7, .i i8, .slice A n c], .agg #[.i x0, .b x1, .u x2, .i x3], .pointer (some ⟨w.heap.size, 0, none⟩), .pointer (some ⟨w.heap.size + 1, 0, none⟩), .pointer (some ⟨w.heap.size + 2, 0, none⟩), undef, .pointer (some ⟨P, 0, none⟩), undef, .agg #[.i s0, .b s1, .u s2, .i s3, .b i0, .i i1, .b i2, .u i3, .i i4, .i i5, .b i6, .u i7, .i i8, .slice A n c], .b true, .b false, undef, .agg #[.i s0, .b s1, .u s2, .i s3, .b i0, .i i1, .b i2, .u i3, .i i4, .i i5, .b i6, .u i7, .i i8, .slice A n c], .func (.func 102) #[] #[.pointer (some ⟨N, 0, none⟩)], .i x.1, .agg (gateCells x.2.1 x.2.2).toArray, undef, undef, undef, undef, undef, undef, undef, undef, undef, undef, undef, undef, undef, undef, undef, undef, undef, undef, undef, undef, undef, undef, undef, undef, undef, undef, undef], defers := [] })
   ?hAx ?assign ?body ?done ?stop
  case hI =>
   refine StayO.and (StayO.and (StayO.blk _ _ _ (by omega)) (StayO.and (StayO.blk _ _ _ (by omega)) (StayO.and (StayO.blk _ _ _ (by omega)) (StayO.blk _ _ _ (by omega))))) (StayO.and (StayO.bel (by omega) (Nat.le_refl _)) (StayO.pure _))
  case hIx =>
   intro c
   refine StayO.and ?_ (StayO.and (StayO.bel (by omega) (Nat.le_refl _)) (StayO.pure _))
   rintro pre X Y row ⟨r, hb, hr⟩ hg hrow
   exact ⟨r, StayO.blk _ _ _ (by omega) () X Y row hb hg hrow, hr⟩
  case h0 => exact ⟨⟨BT2, BN2, BR2, BX⟩, HB2, fun x hx => by cases hx⟩
  case hAx =>
   rintro x a' X l o o' ⟨P, hP, hb, ha⟩ hl h1 hc
   exact ⟨P, hP, (World.putObj_heap_other (by intro e; subst e; rw [show X.heap[P]? = _ from hb] at h1; cases h1; cases hc)).trans hb, ha⟩
  case assign =>
   rintro l pre ⟨k, ⟨u0, u1, u2, u3⟩, ⟨v0, ⟨v1, v2, v3, v4⟩, ⟨v5, v6, v7, v8⟩⟩⟩ W K ⟨⟨j1, j2, j3, j4⟩, hB, hg⟩ hK
   have hb2 : Below W.heap.size W (W.alloc (.cells (gateCells ⟨u0, u1, u2, u3⟩ ⟨v0, ⟨v1, v2, v3, v4⟩, ⟨v5, v6, v7, v8⟩⟩).toArray 122)) := bl_alloc (Below.refl _ _) _
   have hNW := j4.lt
   have hK2 := hK _ _ (keepsFrom_bel hb2 _) (KpG.call hb2 hB.size hNW) ⟨⟨j1.call hb2, j2.call hb2, j3.call hb2, j4.call hb2⟩, bl_trans hB hb2, hg⟩
    ⟨W.heap.size, hNW, Blk.new W _ _, rfl⟩
   clear hK j1 j2 j3 j4 hg hB hb2
   dsimp only [encG, gateCells] at hK2 ⊢
   gi_wp2
   exact hK2
  case body =>
   rintro l pre ⟨k, ⟨u0, u1, u2, u3⟩, ⟨v0, ⟨v1, v2, v3, v4⟩, ⟨v5, v6, v7, v8⟩⟩⟩ a' W hl ⟨⟨j1, j2, j3, j4⟩, hB, hg⟩ ⟨P, hP, bP, rfl⟩ hlen
   dsimp only [gateCells] at bP ⊢
   have HC := Lib.hid (fun W => cmpN_calls x0 x1 x2 x3 u0 u1 u2 u3 W)
   have Hg := Lib.hid hg
   obtain ⟨⟨q0, q1, q2, q3⟩, _⟩ := j2.c4
   obtain ⟨p0, p1, p2, p3, p4, p5, p6, p7, p8, p9, p10, p11, p12⟩ := bP.c13
   have hl4 := j4.lt
   generalize hcm : cmpN ⟨x0, x1, x2, x3⟩ ⟨u0, u1, u2, u3⟩ = cm at HC
   have Hcm := Lib.hid hcm
   clear hcm hg
   by_cases h0 : cm = 0
   ·subst h0
    gi_wp2_with (first
     | (refine ⟨trivial, ?_⟩; gi_at_call 28; refine (CallsIn.inRound l (callsIn_wide.2 (HC.out _))).mono ?_; rintro e w2 ⟨rfl, hb⟩; clear p0 p1 p2 p3 p4 p5 p6 p7 p8 p9 p10 p11 p12; have b2 := bP.call hb; have r2 := j3.call hb; obtain ⟨p0, p1, p2, p3, p4, p5, p6, p7, p8, p9, p10, p11, p12⟩ := b2.c13)
     | (refine wpListIn_storeM rfl 34 (.tmp 4) (.tmp 22) rfl (w.heap.size + 2) _ _ r2 rfl rfl (by kernel_rfl) rfl (by simp [Value.oneCell']) ?_; intro W3 B3 P3))
    exact ⟨(keepsFrom_bel hb _).trans (P3.keeps r2), ⟨⟨v0, ⟨v1, v2, v3, v4⟩, ⟨v5, v6, v7, v8⟩⟩, B3, pre, k, ⟨u0, u1, u2, u3⟩, rfl, Hg.out, by rw [Hcm.out]; rfl⟩, P3.bel (bl_trans hB hb) (by omega), rfl⟩
   ·gi_wp2_with (refine ⟨trivial, ?_⟩; gi_at_call 28; refine (CallsIn.inRound l (callsIn_wide.2 (HC.out _))).mono ?_; rintro e w2 ⟨rfl, hb⟩)
    exact ⟨keepsFrom_bel hb _, KpG.call hb hB.size hl4, ⟨j1.call hb, j2.call hb, j3.call hb, j4.call hb⟩, bl_trans hB hb, mem_gates_snoc Hg.out (by rw [Hcm.out]; simpa using h0)⟩
  case done =>
   rintro D zs W hD rfl ⟨⟨j1, j2, j3, j4⟩, hB, hg⟩ hK
   have hat := at_none hm (x := ⟨x0, x1, x2, x3⟩) (by rw [hs.1]; exact hg)
   have HI := Lib.hid (fun W h1 h2 => indexT_calls (w.heap.size + 1) x0 x1 x2 x3 A n c xs W h1 h2 (by omega))
   have HC := Lib.hid (fun W => cmpN_calls x0 x1 x2 x3 s0 s1 s2 s3 W)
   have hDl := (Array.getElem?_eq_some_iff.1 hK).1
   have t13 := j1.cell 13
   have l1 := j1.lt
   have l2 := j2.lt
   have l3 := j3.lt
   simp only [List.getElem?_toArray, List.getElem?_cons_zero, List.getElem?_cons_succ] at t13
   have HK := Lib.hid hK
   clear hg hK
   rcases idxT_cases ⟨x0, x1, x2, x3⟩ xs with hix | ⟨k, y, hix, hy⟩
   ·rw [hix] at HI hat
    rw [if_pos (.inl (by omega))] at hat
    clear hix
    gi_wp2_with (first
     | (refine ⟨trivial, ?_⟩; gi_at_call 100; refine (callsIn_wide.2 (HI.out _ j2 ((hs.below hB).more hB.size))).mono ?_; rintro e w3 ⟨rfl, hb3⟩; have r3 := j3.call hb3; have HB3 := bl_trans hB hb3)
     | (refine ⟨trivial, ?_⟩; gi_at_call 90; refine (callsIn_wide.2 (all_lit9 _)).mono ?_; rintro e w4 ⟨rfl, hb4⟩; have r4 := r3.call hb4; have HB4 := bl_trans HB3 hb4)
     | (refine wpListIn_storeM rfl 34 (.tmp 4) (.tmp 36) rfl (w.heap.size + 2) _ _ r4 rfl rfl (by kernel_rfl) rfl (by simp [Value.oneCell']) ?_; intro W5 B5 P5)
     | refine ⟨trivial, ?_⟩)
    have hKK := (P5.2.2.2.2 D (by omega)).trans ((hb4.block D (by have := hb3.size; omega)).trans ((hb3.block D hDl).trans HK.out))
    refine ⟨by simp, .inl ⟨_, _, rfl, run_takeDeferred hKK, ?_⟩⟩
    exact ⟨_, at_results _ _ (w.heap.size + 2) _ _ _ _ _ _ _ _ _ rfl ((World.putObj_heap_other (by omega)).trans B5), by first | (rw [hat]; done) | (rw [hat]; rfl) | rfl, (P5.bel HB4 (by omega)).trans (bel_putObj _ _ (by omega))⟩
   ·rw [hix] at HI hat
    simp only [show (((k : Nat) : Int) < 0 ∨ cmpN ⟨x0, x1, x2, x3⟩ ⟨s0, s1, s2, s3⟩ < 0) ↔ cmpN ⟨x0, x1, x2, x3⟩ ⟨s0, s1, s2, s3⟩ < 0 from ⟨fun h => h.elim (fun h => by omega) id, .inr⟩] at hat
    have hkl : k < n := by have := (List.getElem?_eq_some_iff.1 hy).1; have := hs.1; omega
    have hkl' : ¬ ((k : Nat) : Int) < 0 := by omega
    have hsl : sliceAt xs (((k : Nat) : Int)).toNat = y := by
     unfold sliceAt
     rw [Int.toNat_natCast, List.getD_eq_getElem?_getD, hy]
     rfl
    rw [hsl] at hat
    generalize cmpN ⟨x0, x1, x2, x3⟩ ⟨s0, s1, s2, s3⟩ = cm at HC hat
    clear hix hsl
    by_cases hcm : cm < 0
    ·rw [if_pos hcm] at hat
     gi_wp2_with (first
      | (refine ⟨trivial, ?_⟩; gi_at_call 100; refine (callsIn_wide.2 (HI.out _ j2 ((hs.below hB).more hB.size))).mono ?_; rintro e w3 ⟨rfl, hb3⟩; have r3 := j3.call hb3; have HB3 := bl_trans hB hb3; obtain ⟨⟨q0, q1, q2, q3⟩, _⟩ := (j2.call hb3).c4; obtain ⟨p0, p1, p2, p3, _⟩ := (j1.call hb3).c14)
      | (refine ⟨trivial, ?_⟩; gi_at_call 28; refine (callsIn_wide.2 (HC.out _)).mono ?_; rintro e w4 ⟨rfl, hb4⟩; have r4 := r3.call hb4; have HB4 := bl_trans HB3 hb4)
      | (refine ⟨trivial, ?_⟩; gi_at_call 90; refine (callsIn_wide.2 (all_lit9 _)).mono ?_; rintro e w6 ⟨rfl, hb6⟩; have r6 := r4.call hb6; have HB6 := bl_trans HB4 hb6)
      | (refine wpListIn_storeM rfl 34 (.tmp 4) (.tmp 36) rfl (w.heap.size + 2) _ _ r6 rfl rfl (by kernel_rfl) rfl (by simp [Value.oneCell']) ?_; intro W5 B5 P5))
     have hKK := (P5.2.2.2.2 D (by omega)).trans ((hb6.block D (by have := hb3.size; have := hb4.size; omega)).trans ((hb4.block D (by have := hb3.size; omega)).trans ((hb3.block D hDl).trans HK.out)))
     refine ⟨by simp, .inl ⟨_, _, rfl, run_takeDeferred hKK, ?_⟩⟩
     exact ⟨_, at_results _ _ (w.heap.size + 2) _ _ _ _ _ _ _ _ _ rfl ((World.putObj_heap_other (by omega)).trans B5), by first | (rw [hat]; done) | (rw [hat]; rfl) | rfl, (P5.bel HB6 (by omega)).trans (bel_putObj _ _ (by omega))⟩
    ·rw [if_neg hcm] at hat
     obtain ⟨b, off, z, rfl, hbB, hz, hc⟩ := (hs.below hB).at_ hkl
     rw [hy] at hz
     cases hz
     obtain ⟨ye, ⟨a0, ⟨a1, a2, a3, a4⟩, ⟨a5, a6, a7, a8⟩⟩, yo⟩ := y
     have e0 : W.cell? ⟨b, off + k * 22 + 4, none⟩ = some (.b a0) := hc 4 _ rfl
     have e1 : W.cell? ⟨b, off + k * 22 + 5, none⟩ = some (.i a1) := hc 5 _ rfl
     have e2 : W.cell? ⟨b, off + k * 22 + 6, none⟩ = some (.b a2) := hc 6 _ rfl
     have e3 : W.cell? ⟨b, off + k * 22 + 7, none⟩ = some (.u a3) := hc 7 _ rfl
     have e4 : W.cell? ⟨b, off + k * 22 + 8, none⟩ = some (.i a4) := hc 8 _ rfl
     have e5 : W.cell? ⟨b, off + k * 22 + 9, none⟩ = some (.i a5) := hc 9 _ rfl
     have e6 : W.cell? ⟨b, off + k * 22 + 10, none⟩ = some (.b a6) := hc 10 _ rfl
     have e7 : W.cell? ⟨b, off + k * 22 + 11, none⟩ = some (.u a7) := hc 11 _ rfl
     have e8 : W.cell? ⟨b, off + k * 22 + 12, none⟩ = some (.i a8) := hc 12 _ rfl
     have hbW : b < W.heap.size := by have := hB.size; omega
     dsimp only at hat
     clear hc hy
     gi_wp2_with (first
      | (refine ⟨trivial, ?_⟩; gi_at_call 100; refine (callsIn_wide.2 (HI.out _ j2 ((hs.below hB).more hB.size))).mono ?_; rintro e w3 ⟨rfl, hb3⟩; have r3 := j3.call hb3; have HB3 := bl_trans hB hb3; obtain ⟨⟨q0, q1, q2, q3⟩, _⟩ := (j2.call hb3).c4; obtain ⟨p0, p1, p2, p3, _⟩ := (j1.call hb3).c14)
      | (refine ⟨trivial, ?_⟩; gi_at_call 28; refine (callsIn_wide.2 (HC.out _)).mono ?_; rintro e w4 ⟨rfl, hb4⟩; have r4 := r3.call hb4; have HB4 := bl_trans HB3 hb4; have h34 := (bl_trans hb3 hb4); have hce := (bcell h34).1; have t13' := ((j1.call hb3).call hb4).cell 13; simp only [List.getElem?_toArray, List.getElem?_cons_zero, List.getElem?_cons_succ] at t13'; rw [← hce _ _ hbW] at e0 e1 e2 e3 e4 e5 e6 e7 e8; clear hce)
      | (refine wpListIn_storeM rfl 34 (.tmp 4) (.tmp 42) rfl (w.heap.size + 2) _ _ r4 rfl rfl (by kernel_rfl) rfl (by simp [Value.oneCell']) ?_; intro W5 B5 P5))
     have hKK := (P5.2.2.2.2 D (by omega)).trans ((hb4.block D (by have := hb3.size; omega)).trans ((hb3.block D hDl).trans HK.out))
     refine ⟨by simp, .inl ⟨_, _, rfl, run_takeDeferred hKK, ?_⟩⟩
     exact ⟨_, at_results _ _ (w.heap.size + 2) _ _ _ _ _ _ _ _ _ rfl ((World.putObj_heap_other (by omega)).trans B5), by first | (rw [hat]; done) | (rw [hat]; rfl) | rfl, (P5.bel HB4 (by omega)).trans (bel_putObj _ _ (by omega))⟩
  case stop =>
   rintro D c' pre W hD ⟨k, hk, rfl⟩ ⟨⟨r, j1, l, k', u, hpre, hl, hu⟩, hB, rfl⟩ hK
   obtain ⟨j, rfl⟩ : ∃ j, k = j + 1 := by
    cases k with
    | zero => have := congrArg List.length hpre; simp [gatesL] at this
    | succ j => exact ⟨j, rfl⟩
   rw [gatesL_succ] at hpre
   obtain ⟨rfl, he⟩ := List.append_inj' hpre rfl
   simp only [List.cons.injEq, Prod.mk.injEq, and_true] at he
   obtain ⟨rfl, rfl, rfl⟩ := he
   have hat := at_found hm (by rw [hs.1]; omega) hl hu
   generalize gIv ⟨i0, ⟨i1, i2, i3, i4⟩, ⟨i5, i6, i7, i8⟩⟩ xs j = r at j1 hat
   obtain ⟨r0, ⟨r1, r2, r3, r4⟩, ⟨r5, r6, r7, r8⟩⟩ := r
   gi_wp2
   refine ⟨by simp, .inl ⟨_, _, rfl, run_takeDeferred hK, ?_⟩⟩
   exact ⟨_, at_results _ _ (w.heap.size + 2) _ _ _ _ _ _ _ _ _ rfl ((World.putObj_heap_other (by omega)).trans j1), by first | rfl | rw [hat], hB.trans (bel_putObj W _ (by omega))⟩
end Go.Proofs.YteabdeohhmbclaaGreat.Wk
