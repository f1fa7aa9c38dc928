/- Walk: peloruslaw20.PavingCells returns true, for every pair of tubes. -/
import Derived.Test.YteabdeohhmbclaaAwXw
import Derived.Test.YteabdeohhmbclaaPlAw
import Derived.Test.YteabdeohhmbclaaPvZw
namespace Go.Proofs.Yteabdeohhmbclaa.Wk
open Go.RowKit Go.Proofs.Pl Go.Proofs.YteabdeohhmbclaaW.PrintLast
set_option linter.unusedSimpArgs false
set_option linter.unusedVariables false

section
variable {P : Program} {md : Region.Mode} {ops : Array Oper} {Q : Exit → Act → World → Prop} {S : World → Prop} {ds : List Nat} {oi : Oper} {fuel : Nat} {l : Array Bool} {a : Act} {w : World}
theorem pux (i : Nat) (N : Tmp) (l' : Array Bool) (v : Value) (a' : Act) (hy : ∀ w, (execOp a.eval oi).run P w = .ok (.value v) w) (ha : a.put (some N) v = a') (h : wpAnyLast P md ops Q S ds fuel l' a' w) (hi : ops[i]? = some oi := by rfl) (hN : oi.dst = some N := by rfl) (hc : anyB md ops l l' i = true := by as_aux_lemma => kernel_rfl) (hQ : ∀ c a w, Q (.panic c) (a.put oi.dst v) w → Q (.panic c) a w := by exact fun _ _ _ h => h) (hw : Region.wanted oi (yielded ops a.tmps) = true := by rfl) : wpAnyLast P md ops Q S ds (fuel + 1) l a w := pure_ l' hi hN hc hQ (.inl ⟨hw, hy⟩) ha h
theorem tax (i : Nat) (N : Tmp) (l' : Array Bool) (hi : ops[i]? = some oi) (v : Value) (a' : Act) (hS : S w) (hy : YieldsIf P ops S oi v a) (ha : a.put (some N) v = a') (h : wpAnyLast P md ops Q S ds fuel l' a' w) (hN : oi.dst = some N := by rfl) (hc : takeB md ops ds l l' i = true := by as_aux_lemma => kernel_rfl) (hQ : ∀ c a w, Q (.panic c) (a.put oi.dst v) w → Q (.panic c) a w := by exact fun _ _ _ h => h) : wpAnyLast P md ops Q S ds (fuel + 1) l a w := take_ l' hi hN hc hQ hy hS ha h
end
theorem Rate1.one {w : World} {g : Nat} {y : Iv} (h : SlI w w.heap.size (some ⟨g, 0, none⟩) 1 [y]) : Rate1 w (.slice (some ⟨g, 0, none⟩) 1 1) 1 := .inr ⟨g, y, rfl, rfl, h⟩
theorem Rate1.none (w : World) : Rate1 w (.slice none 0 0) 0 := .inl ⟨rfl, rfl⟩
theorem cells_ok {X : PvX} {bud k : Nat} {l : List Cl} (wx : WfTb X.s X.i X.xs) (hR : PvRes X bud k l) :
  WfIv (allX X) ∧ k ≤ bud ∧ l.length ≤ 2 * bud + 1 ∧ ∀ c ∈ l, (WfIv c.p.a ∧ withinI c.p.a (allX X) = true) ∧ (WfIv c.p.b ∧ withinI c.p.b (allX X) = true) ∧ ((c.kd = 0 ∧ outX X c.p = false) ∨ (c.kd = 1 ∧ k = bud)) := by
 have wa : WfIv (allX X) := make_wf wx.1 (endT_wf wx)
 refine ⟨wa, ?_⟩
 cases hp : paveOk X with
 | false =>
  obtain ⟨rfl, rfl⟩ := hR.1 hp
  exact ⟨Nat.zero_le _, Nat.zero_le _, fun c hc => by cases hc⟩
 | true =>
  obtain ⟨h1, h2, h3, rfl⟩ := hR.2 hp
  have hI := lookN_inv (out := outX X) (spl := splP X.f) (fun p => (WfIv p.a ∧ withinI p.a (allX X) = true) ∧ (WfIv p.b ∧ withinI p.b (allX X) = true)) (fun p h l hp hs => splP_within wa hp hs) ⟨allX X, allX X⟩ ⟨⟨wa, within_refl wa⟩, wa, within_refl wa⟩ k
  change (∀ p ∈ (lkN X (allX X) k).1, _) ∧ (∀ c ∈ (lkN X (allX X) k).2, _) ∧ (lkN X (allX X) k).1.length ≤ _ ∧ (lkN X (allX X) k).2.length ≤ _ at hI
  obtain ⟨i1, i2, i3, i4⟩ := hI
  refine ⟨h1, ?_, fun c hc => ?_⟩
  ·unfold restC
   rw [List.length_append, List.length_map, List.length_reverse]
   omega
  ·unfold restC at hc
   rcases List.mem_append.1 hc with hc | hc
   ·obtain ⟨⟨p1, p2⟩, p3, p4⟩ := i2 c hc
    exact ⟨p1, p2, .inl ⟨p3, p4⟩⟩
   ·obtain ⟨p, hp', rfl⟩ := List.mem_map.1 hc
    have hm := List.mem_reverse.1 hp'
    refine ⟨(i1 p hm).1, (i1 p hm).2, .inr ⟨rfl, ?_⟩⟩
    rcases Nat.lt_or_ge k bud with hk | hk
    ·rw [h3 hk] at hm; cases hm
    ·omega
theorem cells_pre (s0 : Int) (s1 : Bool) (s2 s3 : Int) (i0 : Bool) (i1 : Int) (i2 : Bool) (i3 i4 i5 : Int) (i6 : Bool) (i7 i8 : Int) (A : Option Addr) (n c : Nat) (t0 : Int) (t1 : Bool) (t2 t3 : Int) (j0 : Bool) (j1 : Int) (j2 : Bool) (j3 j4 j5 : Int) (j6 : Bool) (j7 j8 : Int) (B : Option Addr) (m d : Nat) (g0 : Int) (g1 : Bool) (g2 g3 : Int) (f0 : Int) (f1 : Bool) (f2 f3 : Int) (w : World) :
  ∃ W, W = (((w.alloc (.cells #[.i s0, .b s1, .u s2, .i s3, .b i0, .i i1, .b i2, .u i3, .i i4, .i i5, .b i6, .u i7, .i i8, .slice A n c] 29)).alloc (.cells #[.i t0, .b t1, .u t2, .i t3, .b j0, .i j1, .b j2, .u j3, .i j4, .i j5, .b j6, .u j7, .i j8, .slice B m d] 29)).alloc (.cells #[.i g0, .b g1, .u g2, .i g3] 24)).alloc (.cells #[.i f0, .b f1, .u f2, .i f3] 24) ∧ Blk W w.heap.size 29 #[.i s0, .b s1, .u s2, .i s3, .b i0, .i i1, .b i2, .u i3, .i i4, .i i5, .b i6, .u i7, .i i8, .slice A n c] ∧ Blk W (w.heap.size + 1) 29 #[.i t0, .b t1, .u t2, .i t3, .b j0, .i j1, .b j2, .u j3, .i j4, .i j5, .b j6, .u j7, .i j8, .slice B m d] ∧ Blk W (w.heap.size + 2) 24 #[.i g0, .b g1, .u g2, .i g3] ∧ Blk W (w.heap.size + 3) 24 #[.i f0, .b f1, .u f2, .i f3] ∧ Below w.heap.size w W :=
 ⟨_, rfl, (((Blk.new w _ _).alloc _).alloc _).alloc _, ((Blk.new1 w _ _ _).alloc _).alloc _, (Blk.new2 w _ _ _ _).alloc _, Blk.new3 w _ _ _ _ _, bl_alloc (bl_alloc (bl_alloc (bl_alloc (Below.refl w.heap.size w) _) _) _) _⟩
set_option maxRecDepth 100000 in
set_option maxHeartbeats 16000000 in
theorem cells_calls (s0 : Int) (s1 : Bool) (s2 s3 : Int) (i0 : Bool) (i1 : Int) (i2 : Bool) (i3 i4 i5 : Int) (i6 : Bool) (i7 i8 : Int) (A : Option Addr) (n c : Nat) (xs : List Slc) (t0 : Int) (t1 : Bool) (t2 t3 : Int) (j0 : Bool) (j1 : Int) (j2 : Bool) (j3 j4 j5 : Int) (j6 : Bool) (j7 j8 : Int) (B : Option Addr) (m d : Nat) (ys : List Slc) (g0 : Int) (g1 : Bool) (g2 g3 : Int) (f0 : Int) (f1 : Bool) (f2 f3 : Int) (bi : Int) (w : World) (hs : SlT w w.heap.size A n xs) (ht : SlT w w.heap.size B m ys) (wx : WfTb ⟨s0, s1, s2, s3⟩ ⟨i0, ⟨i1, i2, i3, i4⟩, ⟨i5, i6, i7, i8⟩⟩ xs) (wy : WfTb ⟨t0, t1, t2, t3⟩ ⟨j0, ⟨j1, j2, j3, j4⟩, ⟨j5, j6, j7, j8⟩⟩ ys) :
  Calls Try.prog 3 #[.agg #[.i s0, .b s1, .u s2, .i s3, .b i0, .i i1, .b i2, .u i3, .i i4, .i i5, .b i6, .u i7, .i i8, .slice A n c], .agg #[.i t0, .b t1, .u t2, .i t3, .b j0, .i j1, .b j2, .u j3, .i j4, .i j5, .b j6, .u j7, .i j8, .slice B m d], .agg #[.i g0, .b g1, .u g2, .i g3], .agg #[.i f0, .b f1, .u f2, .i f3], .i bi] w fun e w' => e = .returned (.b true) ∧ Below w.heap.size w w' := by
 have HP := (fun W => pointI_calls g0 g1 g2 g3 W)
 generalize pointI ⟨g0, g1, g2, g3⟩ = p at HP
 obtain ⟨p0, ⟨p1, p2, p3, p4⟩, ⟨p5, p6, p7, p8⟩⟩ := p
 dsimp only at HP
 replace HP := Lib.hid HP
 have HPX := Lib.hid (fun rv m_ W h hr => plain_calls s0 s1 s2 s3 i0 i1 i2 i3 i4 i5 i6 i7 i8 A n c xs rv m_ W h hr)
 have HPY := Lib.hid (fun rv m_ W h hr => plain_calls t0 t1 t2 t3 j0 j1 j2 j3 j4 j5 j6 j7 j8 B m d ys rv m_ W h hr)
 have HMX := (fun W h => tmay_calls s0 s1 s2 s3 i0 i1 i2 i3 i4 i5 i6 i7 i8 A n c xs W h)
 obtain ⟨hmx, hmy⟩ : ∃ b, mayT ⟨⟨s0, s1, s2, s3⟩, ⟨i0, ⟨i1, i2, i3, i4⟩, ⟨i5, i6, i7, i8⟩⟩, xs⟩ = b := ⟨_, rfl⟩
 rw [hmy] at HMX
 replace HMX := Lib.hid HMX
 obtain ⟨W_, rfl, BX, BY, BG, BF, HBd⟩ := cells_pre s0 s1 s2 s3 i0 i1 i2 i3 i4 i5 i6 i7 i8 A n c t0 t1 t2 t3 j0 j1 j2 j3 j4 j5 j6 j7 j8 B m d g0 g1 g2 g3 f0 f1 f2 f3 w
 replace hs := Lib.hid hs
 replace ht := Lib.hid ht
 go_enter Try.func3, Try.ntmps3
 go_wp2_with (go_at_call 6; (with_reducible refine (awake20_calls _).mono ?_); rintro e' w1 ⟨rfl, hb⟩; replace BX := BX.call hb; replace BY := BY.call hb; replace BG := BG.call hb; replace BF := BF.call hb; replace HBd := bl_trans HBd hb; clear hb)
 replace BX := BX.drew
 replace BY := BY.drew
 replace BG := BG.drew
 replace BF := BF.drew
 replace HBd := bl_drew HBd
 refine start_ (n := 6) (S := fun w' => Blk w' w.heap.size 29 #[.i s0, .b s1, .u s2, .i s3, .b i0, .i i1, .b i2, .u i3, .i i4, .i i5, .b i6, .u i7, .i i8, .slice A n c] ∧ Blk w' (w.heap.size + 2) 24 #[.i g0, .b g1, .u g2, .i g3]) (ds := []) (bq 6 0) (by kernel_rfl) rfl rfl ⟨BX, BG⟩ (fun hHeld => ?_)
 generalize hWW : World.drew _ = w3 at BX BY BG BF HBd hHeld ⊢
 clear hWW
 refine tax 0 19 (bq 6 1) rfl (.agg #[.i s0, .b s1, .u s2, .i s3, .b i0, .i i1, .b i2, .u i3, .i i4, .i i5, .b i6, .u i7, .i i8, .slice A n c]) ?_ hHeld (yieldsIf_load_mid (by rfl) 29 (.tmp 5) rfl w.heap.size 0 rfl [.i s0, .b s1, .u s2, .i s3, .b i0, .i i1, .b i2, .u i3, .i i4, .i i5, .b i6, .u i7, .i i8, .slice A n c] _ (fun _ h => Blk.range h.1 0 _ rfl) Try.underlying29 rfl (by kernel_rfl)) ?_ ?_
 rotate_left
 ·simp only [Act.put, pA, pB, pC]
  rfl
 refine tax 1 20 (bq 6 3) rfl (.agg #[.i g0, .b g1, .u g2, .i g3]) ?_ hHeld (yieldsIf_load_mid (by rfl) 24 (.tmp 7) rfl (w.heap.size + 2) 0 rfl [.i g0, .b g1, .u g2, .i g3] _ (fun _ h => Blk.range h.2 0 _ rfl) Try.underlying24 rfl (by kernel_rfl)) ?_ ?_
 rotate_left
 ·simp only [Act.put, pA, pB, pC]
  rfl
 refine one_ (i := 2) (N := some 21) (bq 6 7) rfl rfl (by as_aux_lemma => kernel_rfl) (by decide) (fun K hK => ?_)
 refine goes_ Try.func8 (by kernel_rfl) rfl #[.agg #[.i g0, .b g1, .u g2, .i g3]] (by first | rfl | go_simp) rfl rfl (by simp only [List.map_toArray, List.map_cons, List.map_nil] <;> rfl) ?_
 with_reducible refine (HP.out _).mono ?_
 rintro e w4 ⟨rfl, hb⟩
 refine ⟨_, rfl, ?_⟩
 replace BX := BX.call hb
 replace BY := BY.call hb
 replace BG := BG.call hb
 replace BF := BF.call hb
 replace HBd := bl_trans HBd hb
 refine hK.out _ _ ⟨BX, BG⟩ (fun hHeld => ?_)
 clear hK K hb
 refine norm_ (a' := ?_) ?_ ?_
 rotate_left
 ·show Act.put _ (some 21) _ = _
  simp only [Act.put, pA, pB, pC]
  rfl
 refine one_ (i := 3) (N := some 22) (bq 6 15) rfl rfl (by as_aux_lemma => kernel_rfl) (by decide) (fun K hK => ?_)
 refine value_ (v := ?_) (w1 := ?_) (by rfl) rfl ?_ ?_
 rotate_left 2
 ·go_simp
  first | rfl | (constructor <;> rfl)
 have BS := Blk.new w4 26 #[.b p0, .i p1, .b p2, .u p3, .i p4, .i p5, .b p6, .u p7, .i p8]
 replace BX := BX.alloc (.cells #[.b p0, .i p1, .b p2, .u p3, .i p4, .i p5, .b p6, .u p7, .i p8] 26)
 replace BY := BY.alloc (.cells #[.b p0, .i p1, .b p2, .u p3, .i p4, .i p5, .b p6, .u p7, .i p8] 26)
 replace BG := BG.alloc (.cells #[.b p0, .i p1, .b p2, .u p3, .i p4, .i p5, .b p6, .u p7, .i p8] 26)
 replace BF := BF.alloc (.cells #[.b p0, .i p1, .b p2, .u p3, .i p4, .i p5, .b p6, .u p7, .i p8] 26)
 replace HBd := bl_alloc HBd (.cells #[.b p0, .i p1, .b p2, .u p3, .i p4, .i p5, .b p6, .u p7, .i p8] 26)
 refine hK.out _ _ ⟨BX, BG⟩ (fun hHeld => ?_)
 clear hK K
 refine norm_ (a' := ?_) ?_ ?_
 rotate_left
 ·show Act.put _ (some 22) _ = _
  simp only [Act.put, pA, pB, pC]
  rfl
 refine one_ (i := 4) (N := some 23) (bq 6 31) rfl rfl (by as_aux_lemma => kernel_rfl) (by decide) (fun K hK => ?_)
 refine goes_ Try.func7 (by kernel_rfl) rfl #[.agg #[.i s0, .b s1, .u s2, .i s3, .b i0, .i i1, .b i2, .u i3, .i i4, .i i5, .b i6, .u i7, .i i8, .slice A n c], .slice (some ⟨w4.heap.size, 0, none⟩) 1 1] (by first | rfl | go_simp) rfl rfl (by simp only [List.map_toArray, List.map_cons, List.map_nil] <;> rfl) ?_
 with_reducible refine (HPX.out _ _ _ (hs.out.on HBd) (Rate1.one (y := ⟨p0, ⟨p1, p2, p3, p4⟩, ⟨p5, p6, p7, p8⟩⟩) (SlI.one (x := ⟨p0, ⟨p1, p2, p3, p4⟩, ⟨p5, p6, p7, p8⟩⟩) BS BS.lt))).mono ?_
 rintro e w5 ⟨⟨b1, rfl⟩, hb⟩
 refine ⟨_, rfl, ?_⟩
 replace BX := BX.call hb
 replace BY := BY.call hb
 replace BG := BG.call hb
 replace BF := BF.call hb
 replace HBd := bl_trans HBd hb
 refine hK.out _ _ ⟨BX, BG⟩ (fun hHeld => ?_)
 clear hK K hb
 refine norm_ (a' := ?_) ?_ ?_
 rotate_left
 ·show Act.put _ (some 23) _ = _
  simp only [Act.put, pA, pB, pC]
  rfl
 refine pux 5 12 (bq 6 63) ?_ ?_ (fun _ => ?_) ?_ ?_
 rotate_left 2
 ·go_simp
  with_reducible rfl
 ·simp only [Act.put, pA, pB, pC]
  rfl
 refine done_ (by as_aux_lemma => kernel_rfl) ?_
 clear hHeld BS
 cases b1
 ·skip
  go_wp2_with (first
   | (refine wpList_load_mid rfl 29 (.tmp 6) rfl (w.heap.size + 1) 0 rfl [.i t0, .b t1, .u t2, .i t3, .b j0, .i j1, .b j2, .u j3, .i j4, .i j5, .b j6, .u j7, .i j8, .slice B m d] _ (BY.range 0 _ rfl) Try.underlying29 rfl (by kernel_rfl) ?_)
   | (go_at_call 7; (with_reducible refine (HPY.out _ _ _ (ht.out.on HBd) (Rate1.none _)).mono ?_); rintro e' w6 ⟨⟨b2, rfl⟩, hb⟩; replace BX := BX.call hb; replace BY := BY.call hb; replace BG := BG.call hb; replace BF := BF.call hb; replace HBd := bl_trans HBd hb; clear hb; obtain ⟨z0, z1, z2, z3, z4, z5, z6, z7, z8, z9, z10, z11, z12, z13⟩ := BX.c14)
   | (go_at_call 9; (with_reducible refine (HMX.out _ (hs.out.on HBd)).mono ?_); rintro e' w7 ⟨rfl, hb⟩; replace BX := BX.call hb; replace BY := BY.call hb; replace BG := BG.call hb; replace BF := BF.call hb; replace HBd := bl_trans HBd hb; clear hb))
  go_ret
  exact ⟨rfl, HBd⟩
 by_cases hneg : bi < 0
 ·skip
  go_wp2_with (first
   | (refine wpList_load_mid rfl 29 (.tmp 6) rfl (w.heap.size + 1) 0 rfl [.i t0, .b t1, .u t2, .i t3, .b j0, .i j1, .b j2, .u j3, .i j4, .i j5, .b j6, .u j7, .i j8, .slice B m d] _ (BY.range 0 _ rfl) Try.underlying29 rfl (by kernel_rfl) ?_)
   | (go_at_call 7; (with_reducible refine (HPY.out _ _ _ (ht.out.on HBd) (Rate1.none _)).mono ?_); rintro e' w6 ⟨⟨b2, rfl⟩, hb⟩; replace BX := BX.call hb; replace BY := BY.call hb; replace BG := BG.call hb; replace BF := BF.call hb; replace HBd := bl_trans HBd hb; clear hb; obtain ⟨z0, z1, z2, z3, z4, z5, z6, z7, z8, z9, z10, z11, z12, z13⟩ := BX.c14)
   | (go_at_call 9; (with_reducible refine (HMX.out _ (hs.out.on HBd)).mono ?_); rintro e' w7 ⟨rfl, hb⟩; replace BX := BX.call hb; replace BY := BY.call hb; replace BG := BG.call hb; replace BF := BF.call hb; replace HBd := bl_trans HBd hb; clear hb))
  all_goals (go_ret; exact ⟨rfl, HBd⟩)
 by_cases hbig : 100 < bi
 ·skip
  go_wp2_with (first
   | (refine wpList_load_mid rfl 29 (.tmp 6) rfl (w.heap.size + 1) 0 rfl [.i t0, .b t1, .u t2, .i t3, .b j0, .i j1, .b j2, .u j3, .i j4, .i j5, .b j6, .u j7, .i j8, .slice B m d] _ (BY.range 0 _ rfl) Try.underlying29 rfl (by kernel_rfl) ?_)
   | (go_at_call 7; (with_reducible refine (HPY.out _ _ _ (ht.out.on HBd) (Rate1.none _)).mono ?_); rintro e' w6 ⟨⟨b2, rfl⟩, hb⟩; replace BX := BX.call hb; replace BY := BY.call hb; replace BG := BG.call hb; replace BF := BF.call hb; replace HBd := bl_trans HBd hb; clear hb; obtain ⟨z0, z1, z2, z3, z4, z5, z6, z7, z8, z9, z10, z11, z12, z13⟩ := BX.c14)
   | (go_at_call 9; (with_reducible refine (HMX.out _ (hs.out.on HBd)).mono ?_); rintro e' w7 ⟨rfl, hb⟩; replace BX := BX.call hb; replace BY := BY.call hb; replace BG := BG.call hb; replace BF := BF.call hb; replace HBd := bl_trans HBd hb; clear hb))
  all_goals (go_ret; exact ⟨rfl, HBd⟩)
 cases hmx
 ·skip
  go_wp2_with (first
   | (refine wpList_load_mid rfl 29 (.tmp 6) rfl (w.heap.size + 1) 0 rfl [.i t0, .b t1, .u t2, .i t3, .b j0, .i j1, .b j2, .u j3, .i j4, .i j5, .b j6, .u j7, .i j8, .slice B m d] _ (BY.range 0 _ rfl) Try.underlying29 rfl (by kernel_rfl) ?_)
   | (go_at_call 7; (with_reducible refine (HPY.out _ _ _ (ht.out.on HBd) (Rate1.none _)).mono ?_); rintro e' w6 ⟨⟨b2, rfl⟩, hb⟩; replace BX := BX.call hb; replace BY := BY.call hb; replace BG := BG.call hb; replace BF := BF.call hb; replace HBd := bl_trans HBd hb; clear hb; obtain ⟨z0, z1, z2, z3, z4, z5, z6, z7, z8, z9, z10, z11, z12, z13⟩ := BX.c14)
   | (go_at_call 9; (with_reducible refine (HMX.out _ (hs.out.on HBd)).mono ?_); rintro e' w7 ⟨rfl, hb⟩; replace BX := BX.call hb; replace BY := BY.call hb; replace BG := BG.call hb; replace BF := BF.call hb; replace HBd := bl_trans HBd hb; clear hb))
  all_goals (go_ret; exact ⟨rfl, HBd⟩)
 obtain ⟨bud, rfl⟩ : ∃ b : Nat, bi = (b : Int) := ⟨bi.toNat, by omega⟩
 have hbud : bud ≤ 100 := by omega
 have hn : n ≤ 1000 := by rw [← hs.out.1]; exact mayT_len hmy
 have hne : ¬ ((n : Int) < 0) := by omega
 go_wp2_with (first
  | (refine wpList_load_mid rfl 29 (.tmp 6) rfl (w.heap.size + 1) 0 rfl [.i t0, .b t1, .u t2, .i t3, .b j0, .i j1, .b j2, .u j3, .i j4, .i j5, .b j6, .u j7, .i j8, .slice B m d] _ (BY.range 0 _ rfl) Try.underlying29 rfl (by kernel_rfl) ?_)
  | (go_at_call 7; (with_reducible refine (HPY.out _ _ _ (ht.out.on HBd) (Rate1.none _)).mono ?_); rintro e' w6 ⟨⟨b2, rfl⟩, hb⟩; replace BX := BX.call hb; replace BY := BY.call hb; replace BG := BG.call hb; replace BF := BF.call hb; replace HBd := bl_trans HBd hb; clear hb; obtain ⟨z0, z1, z2, z3, z4, z5, z6, z7, z8, z9, z10, z11, z12, z13⟩ := BX.c14)
  | (go_at_call 9; (with_reducible refine (HMX.out _ (hs.out.on HBd)).mono ?_); rintro e' w7 ⟨rfl, hb⟩; replace BX := BX.call hb; replace BY := BY.call hb; replace BG := BG.call hb; replace BF := BF.call hb; replace HBd := bl_trans HBd hb; clear hb))
 all_goals first | (go_ret; exact ⟨rfl, HBd⟩) | skip
 clear z0 z1 z2 z3 z4 z5 z6 z7 z8 z9 z10 z11 z12 z13
 have HW := (fun W h => when_calls s0 s1 s2 s3 i0 i1 i2 i3 i4 i5 i6 i7 i8 A n c xs W h hn)
 obtain ⟨q_, hq⟩ : ∃ q, q = endT ⟨s0, s1, s2, s3⟩ xs := ⟨_, rfl⟩
 rw [← hq] at HW
 obtain ⟨q0, q1, q2, q3⟩ := q_
 have HK := (fun W => makeI_calls s0 s1 s2 s3 q0 q1 q2 q3 W)
 obtain ⟨u_, hu⟩ : ∃ u, u = makeI ⟨s0, s1, s2, s3⟩ ⟨q0, q1, q2, q3⟩ := ⟨_, rfl⟩
 rw [← hu] at HK
 obtain ⟨u0, ⟨u1, u2, u3, u4⟩, ⟨u5, u6, u7, u8⟩⟩ := u_
 dsimp only at HW HK
 rw [hq] at hu
 have hallu : allX ⟨⟨s0, s1, s2, s3⟩, ⟨i0, ⟨i1, i2, i3, i4⟩, ⟨i5, i6, i7, i8⟩⟩, A, n, c, xs, ⟨t0, t1, t2, t3⟩, ⟨j0, ⟨j1, j2, j3, j4⟩, ⟨j5, j6, j7, j8⟩⟩, B, m, d, ys, ⟨g0, g1, g2, g3⟩, ⟨f0, f1, f2, f3⟩⟩ = ⟨u0, ⟨u1, u2, u3, u4⟩, ⟨u5, u6, u7, u8⟩⟩ := hu.symm
 replace hallu := Lib.hid hallu
 replace HW := Lib.hid HW
 replace HK := Lib.hid HK
 clear hq hu
 replace BX := BX.drew
 replace BY := BY.drew
 replace BG := BG.drew
 replace BF := BF.drew
 replace HBd := bl_drew HBd
 have c13_ := BX.cell 13
 refine start_ (n := 10) (S := fun w' => Blk w' w.heap.size 29 #[.i s0, .b s1, .u s2, .i s3, .b i0, .i i1, .b i2, .u i3, .i i4, .i i5, .b i6, .u i7, .i i8, .slice A n c] ∧ w'.cell? ⟨w.heap.size, 13, none⟩ = some (.slice A n c)) (ds := [9]) (bq 10 0) (by kernel_rfl) rfl rfl ⟨BX, BX.cell 13⟩ (fun hHeld => ?_)
 generalize hWW : World.drew _ = w8 at BX BY BG BF HBd c13_ hHeld ⊢
 clear hWW
 clear c13_
 refine pux 0 50 (bq 10 1) ?_ ?_ (fun _ => ?_) ?_ ?_
 rotate_left 2
 ·go_simp
  with_reducible rfl
 ·simp only [Act.put, pA, pB, pC]
  rfl
 refine tax 1 51 (bq 10 3) rfl (.agg #[.i s0, .b s1, .u s2, .i s3]) ?_ hHeld (yieldsIf_load_mid (by rfl) 24 (.tmp 50) rfl w.heap.size 0 rfl [.i s0, .b s1, .u s2, .i s3] _ (fun _ h => Blk.range h.1 0 _ rfl) Try.underlying24 rfl (by kernel_rfl)) ?_ ?_
 rotate_left
 ·simp only [Act.put, pA, pB, pC]
  rfl
 refine tax 2 52 (bq 10 7) rfl (.agg #[.i s0, .b s1, .u s2, .i s3, .b i0, .i i1, .b i2, .u i3, .i i4, .i i5, .b i6, .u i7, .i i8, .slice A n c]) ?_ hHeld (yieldsIf_load_mid (by rfl) 29 (.tmp 5) rfl w.heap.size 0 rfl [.i s0, .b s1, .u s2, .i s3, .b i0, .i i1, .b i2, .u i3, .i i4, .i i5, .b i6, .u i7, .i i8, .slice A n c] _ (fun _ h => Blk.range h.1 0 _ rfl) Try.underlying29 rfl (by kernel_rfl)) ?_ ?_
 rotate_left
 ·simp only [Act.put, pA, pB, pC]
  rfl
 refine pux 3 53 (bq 10 15) ?_ ?_ (fun _ => ?_) ?_ ?_
 rotate_left 2
 ·go_simp
  with_reducible rfl
 ·simp only [Act.put, pA, pB, pC]
  rfl
 refine take_ (i := 4) (N := some 54) (v := ?_) (a' := ?_) (bq 10 31) rfl rfl (by as_aux_lemma => kernel_rfl) (fun _ _ _ h => h) (Or.inl ⟨by rfl, ?_⟩) hHeld ?_ ?_
 rotate_left
 ·rintro w' ⟨s0_, s1_⟩
  go_simp
  with_reducible rfl
 rotate_left
 ·simp only [Act.put, pA, pB, pC]
  rfl
 refine pux 5 55 (bq 10 63) ?_ ?_ (fun _ => ?_) ?_ ?_
 rotate_left 2
 ·go_simp
  with_reducible rfl
 ·simp only [Act.put, pA, pB, pC]
  rfl
 refine join_ (σ := Nat) 1 (bq 10 511) (fun s => [(56, .agg #[.i q0, .b q1, .u q2, .i q3]), (57, .agg #[.b u0, .i u1, .b u2, .u u3, .i u4, .i u5, .b u6, .u u7, .i u8]), (14, .pointer (some ⟨s, 0, none⟩))]) (fun s w' => (Blk w' w.heap.size 29 #[.i s0, .b s1, .u s2, .i s3, .b i0, .i i1, .b i2, .u i3, .i i4, .i i5, .b i6, .u i7, .i i8, .slice A n c] ∧ Blk w' (w.heap.size + 1) 29 #[.i t0, .b t1, .u t2, .i t3, .b j0, .i j1, .b j2, .u j3, .i j4, .i j5, .b j6, .u j7, .i j8, .slice B m d] ∧ Blk w' (w.heap.size + 2) 24 #[.i g0, .b g1, .u g2, .i g3] ∧ Blk w' (w.heap.size + 3) 24 #[.i f0, .b f1, .u f2, .i f3] ∧ Blk w' s 26 #[.b false, .i 0, .b false, .u 0, .i 0, .i 0, .b false, .u 0, .i 0]) ∧ (w.heap.size ≤ s) ∧ Below w.heap.size w w') ?_ (fun hJ => ?_)
 ·skip
  rintro ga w9 ⟨⟨BX, BY, BG, BF, BA⟩, hga, HBd⟩
  clear hHeld
  refine norm_ (a' := ?_) ?_ ?_
  rotate_left
  ·simp only [putAll, Act.put, pA, pB, pC]
   rfl
  obtain ⟨⟨z0, z1, z2, z3, z4, z5, z6, z7, z8⟩, ⟨k0, k1, k2, k3, k4, k5, k6, k7, k8⟩⟩ := BA.c9
  obtain ⟨W9, hW9, BA9, hk9, hL9, hs9⟩ := put9 BA (.b u0) (.i u1) (.b u2) (.u u3) (.i u4) (.i u5) (.b u6) (.u u7) (.i u8)
  refine last_ (i := 9) (N := none) (bq 10 1023) rfl rfl (by as_aux_lemma => kernel_rfl) (by decide) (fun K hK => ?_)
  refine skip_ (w1 := ?_) (by rfl) rfl ?_ ?_
  rotate_left
  ·go_simp
   rfl
  refine hK.out _ _ ?_
  clear hK K
  refine done_ (by as_aux_lemma => kernel_rfl) ?_
  replace BX := hk9 _ _ _ (blk_ne BX BA (by decide)) BX
  replace BY := hk9 _ _ _ (blk_ne BY BA (by decide)) BY
  replace BG := hk9 _ _ _ (blk_ne BG BA (by decide)) BG
  replace BF := hk9 _ _ _ (blk_ne BF BA (by decide)) BF
  replace HBd := hL9 w HBd hga
  clear z0 z1 z2 z3 z4 z5 z6 z7 z8 k0 k1 k2 k3 k4 k5 k6 k7 k8 hW9 hk9 hL9 BA hs9
  have BA := BA9
  clear BA9 HW HK HPX HPY HMX HP
  have HPV : ∀ W, PvOk W W.heap.size ⟨⟨s0, s1, s2, s3⟩, ⟨i0, ⟨i1, i2, i3, i4⟩, ⟨i5, i6, i7, i8⟩⟩, A, n, c, xs, ⟨t0, t1, t2, t3⟩, ⟨j0, ⟨j1, j2, j3, j4⟩, ⟨j5, j6, j7, j8⟩⟩, B, m, d, ys, ⟨g0, g1, g2, g3⟩, ⟨f0, f1, f2, f3⟩⟩ → Calls Try.prog 12 #[.agg #[.i s0, .b s1, .u s2, .i s3, .b i0, .i i1, .b i2, .u i3, .i i4, .i i5, .b i6, .u i7, .i i8, .slice A n c], .agg #[.i t0, .b t1, .u t2, .i t3, .b j0, .i j1, .b j2, .u j3, .i j4, .i j5, .b j6, .u j7, .i j8, .slice B m d], .agg #[.i g0, .b g1, .u g2, .i g3], .agg #[.i f0, .b f1, .u f2, .i f3], .i (bud : Int)] W
   fun e w' => ∃ (v : Value) (k : Nat) (l : List Cl), e = .returned (.tuple #[v, .i k]) ∧ OwnC w' W.heap.size v l ∧ PvRes ⟨⟨s0, s1, s2, s3⟩, ⟨i0, ⟨i1, i2, i3, i4⟩, ⟨i5, i6, i7, i8⟩⟩, A, n, c, xs, ⟨t0, t1, t2, t3⟩, ⟨j0, ⟨j1, j2, j3, j4⟩, ⟨j5, j6, j7, j8⟩⟩, B, m, d, ys, ⟨g0, g1, g2, g3⟩, ⟨f0, f1, f2, f3⟩⟩ bud k l ∧ Below W.heap.size W w' := fun W h => pave_calls _ bud W h (by omega)
  replace HPV := Lib.hid HPV
  go_wp2_with (first
   | (refine wpList_load_mid rfl 29 (.tmp 5) rfl w.heap.size 0 rfl [.i s0, .b s1, .u s2, .i s3, .b i0, .i i1, .b i2, .u i3, .i i4, .i i5, .b i6, .u i7, .i i8, .slice A n c] _ (BX.range 0 _ rfl) Try.underlying29 rfl (by kernel_rfl) ?_)
   | (refine wpList_load_mid rfl 29 (.tmp 6) rfl (w.heap.size + 1) 0 rfl [.i t0, .b t1, .u t2, .i t3, .b j0, .i j1, .b j2, .u j3, .i j4, .i j5, .b j6, .u j7, .i j8, .slice B m d] _ (BY.range 0 _ rfl) Try.underlying29 rfl (by kernel_rfl) ?_)
   | (refine wpList_load_mid rfl 24 (.tmp 7) rfl (w.heap.size + 2) 0 rfl [.i g0, .b g1, .u g2, .i g3] _ (BG.range 0 _ rfl) Try.underlying24 rfl (by kernel_rfl) ?_)
   | (refine wpList_load_mid rfl 24 (.tmp 8) rfl (w.heap.size + 3) 0 rfl [.i f0, .b f1, .u f2, .i f3] _ (BF.range 0 _ rfl) Try.underlying24 rfl (by kernel_rfl) ?_)
   | (go_at_call 12; (with_reducible refine (HPV.out _ ⟨hs.out.on HBd, ht.out.on HBd, wx, wy⟩).mono ?_); rintro e' w10 ⟨v_, k, l, rfl, OC, hR, hb⟩; replace BX := BX.call hb; replace BY := BY.call hb; replace BG := BG.call hb; replace BA := BA.call hb; replace HBd := bl_trans HBd hb; obtain ⟨Av, cv, rfl⟩ := OC.form; replace OC := Lib.hid OC; replace hR := Lib.hid hR; clear hb BF))
  obtain ⟨wu, hkb, hlen, hcell⟩ := cells_ok (show WfTb _ _ _ from wx) hR.out
  rw [hallu.out] at wu hcell
  replace hcell := Lib.hid hcell
  replace wu := Lib.hid wu
  have hs10 := Lib.hid (hs.out.on HBd)
  have ht10 := Lib.hid (ht.out.on HBd)
  have hR0 : Hid (∃ ii : Nat, ii ≤ l.length ∧ (.i 0 : Value) = .i (ii : Int) ∧ Below w10.heap.size w10 w10) := ⟨0, Nat.zero_le _, rfl, Below.refl _ _⟩
  have hl300 : l.length ≤ 300 := by omega
  have hz10 := HBd.size
  replace HBd := Lib.hid HBd
  clear hR hallu hlen HPV hbig hneg
  go_wp2_with fail
  go_loopw [17] (fun v wr => ∃ ii : Nat, ii ≤ l.length ∧ v = .i (ii : Int) ∧ Below w10.heap.size w10 wr) (fun v _ => l.length - (intOf v).toNat)
  case atStart => exact hR0.out
  case round =>
   obtain ⟨ii, hii, rfl, HB⟩ := hrel
   clear hR0
   by_cases hlt : ii < l.length
   rotate_left
   ·have hin : ii = l.length := by omega
    subst hin
    have hkb' : (k : Int) ≤ (bud : Int) := by omega
    go_wp2_with fail
    go_ret
    exact ⟨rfl, HBd.out.trans (HB.mono hz10)⟩
   obtain ⟨Av', cv', e', hsl⟩ := OwnG.sl clCells_length (by decide) OC.out
   injection e' with e1 e2 e3
   subst e1
   subst e3
   clear e2
   obtain ⟨bb, off, x, rfl, hbb, hx, hcx⟩ := hsl.at_ hlt
   obtain ⟨⟨wA, hA⟩, ⟨wB, hB⟩, hKd⟩ := hcell.out x (List.mem_of_getElem? hx)
   obtain ⟨⟨⟨a0, ⟨a1, a2, a3, a4⟩, ⟨a5, a6, a7, a8⟩⟩, ⟨b0, ⟨b1, b2, b3, b4⟩, ⟨b5, b6, b7, b8⟩⟩⟩, kd⟩ := x
   have RA : w10.rangeAt bb (off + ii * 19) [.b a0, .i a1, .b a2, .u a3, .i a4, .i a5, .b a6, .u a7, .i a8] := fun j u hu => hcx j u (by rw [show clCells ⟨⟨⟨a0, ⟨a1, a2, a3, a4⟩, ⟨a5, a6, a7, a8⟩⟩, ⟨b0, ⟨b1, b2, b3, b4⟩, ⟨b5, b6, b7, b8⟩⟩⟩, kd⟩ = [.b a0, .i a1, .b a2, .u a3, .i a4, .i a5, .b a6, .u a7, .i a8] ++ ([.b b0, .i b1, .b b2, .u b3, .i b4, .i b5, .b b6, .u b7, .i b8] ++ [.i kd]) from rfl, List.getElem?_append_left (List.getElem?_eq_some_iff.1 hu).1]; exact hu)
   have RB : w10.rangeAt bb (off + ii * 19 + 9) [.b b0, .i b1, .b b2, .u b3, .i b4, .i b5, .b b6, .u b7, .i b8] := fun j u hu => by
    have h := hcx (9 + j) u (by rw [show clCells ⟨⟨⟨a0, ⟨a1, a2, a3, a4⟩, ⟨a5, a6, a7, a8⟩⟩, ⟨b0, ⟨b1, b2, b3, b4⟩, ⟨b5, b6, b7, b8⟩⟩⟩, kd⟩ = [.b a0, .i a1, .b a2, .u a3, .i a4, .i a5, .b a6, .u a7, .i a8] ++ ([.b b0, .i b1, .b b2, .u b3, .i b4, .i b5, .b b6, .u b7, .i b8] ++ [.i kd]) from rfl, List.getElem?_append_right (by simp), List.getElem?_append_left (by have := (List.getElem?_eq_some_iff.1 hu).1; simp at this ⊢; omega)]; simpa using hu)
    rwa [← Nat.add_assoc] at h
   have RP : w10.rangeAt bb (off + ii * 19) [.b a0, .i a1, .b a2, .u a3, .i a4, .i a5, .b a6, .u a7, .i a8, .b b0, .i b1, .b b2, .u b3, .i b4, .i b5, .b b6, .u b7, .i b8] := fun j u hu => hcx j u (by rw [show clCells ⟨⟨⟨a0, ⟨a1, a2, a3, a4⟩, ⟨a5, a6, a7, a8⟩⟩, ⟨b0, ⟨b1, b2, b3, b4⟩, ⟨b5, b6, b7, b8⟩⟩⟩, kd⟩ = [.b a0, .i a1, .b a2, .u a3, .i a4, .i a5, .b a6, .u a7, .i a8, .b b0, .i b1, .b b2, .u b3, .i b4, .i b5, .b b6, .u b7, .i b8] ++ [.i kd] from rfl, List.getElem?_append_left (List.getElem?_eq_some_iff.1 hu).1]; exact hu)
   have RK : w10.cell? ⟨bb, off + ii * 19 + 18, none⟩ = some (.i kd) := hcx 18 _ rfl
   have HWA := (fun W => withinI_calls a0 a1 a2 a3 a4 a5 a6 a7 a8 u0 u1 u2 u3 u4 u5 u6 u7 u8 W)
   have HWB := (fun W => withinI_calls b0 b1 b2 b3 b4 b5 b6 b7 b8 u0 u1 u2 u3 u4 u5 u6 u7 u8 W)
   have HO := (fun W h1 h2 => out_calls s0 s1 s2 s3 i0 i1 i2 i3 i4 i5 i6 i7 i8 A n c xs t0 t1 t2 t3 j0 j1 j2 j3 j4 j5 j6 j7 j8 B m d ys g0 g1 g2 g3 a0 a1 a2 a3 a4 a5 a6 a7 a8 b0 b1 b2 b3 b4 b5 b6 b7 b8 W h1 h2 wx wy wA.1 wB.2)
   rw [hA] at HWA
   rw [hB] at HWB
   unfold outX at hKd
   dsimp only at hKd
   replace BX := BX.call HB
   replace BY := BY.call HB
   replace BG := BG.call HB
   replace BA := BA.call HB
   replace HWA := Lib.hid HWA
   replace HWB := Lib.hid HWB
   replace RA := Lib.hid RA
   replace RB := Lib.hid RB
   replace RP := Lib.hid RP
   replace RK := Lib.hid RK
   have HBO := HBd
   clear HBd hcell hsl hcx hx OC
   have HBd := HB
   clear HB
   rcases hKd with ⟨rfl, ho⟩ | ⟨rfl, hkk⟩
   ·rw [ho] at HO
    replace HO := Lib.hid HO
    clear ho
    go_wp2_with fail
    replace BX := BX.drew
    replace BY := BY.drew
    replace BG := BG.drew
    replace BA := BA.drew
    replace HBd := bl_drew HBd
    refine start_ (n := 68) (S := fun w' => Blk w' w.heap.size 29 #[.i s0, .b s1, .u s2, .i s3, .b i0, .i i1, .b i2, .u i3, .i i4, .i i5, .b i6, .u i7, .i i8, .slice A n c] ∧ Blk w' (w.heap.size + 1) 29 #[.i t0, .b t1, .u t2, .i t3, .b j0, .i j1, .b j2, .u j3, .i j4, .i j5, .b j6, .u j7, .i j8, .slice B m d] ∧ Blk w' (w.heap.size + 2) 24 #[.i g0, .b g1, .u g2, .i g3] ∧ Blk w' ga 26 #[.b u0, .i u1, .b u2, .u u3, .i u4, .i u5, .b u6, .u u7, .i u8] ∧ w'.rangeAt bb (off + ii * 19) [.b a0, .i a1, .b a2, .u a3, .i a4, .i a5, .b a6, .u a7, .i a8] ∧ w'.rangeAt bb (off + ii * 19 + 9) [.b b0, .i b1, .b b2, .u b3, .i b4, .i b5, .b b6, .u b7, .i b8] ∧ w'.rangeAt bb (off + ii * 19) [.b a0, .i a1, .b a2, .u a3, .i a4, .i a5, .b a6, .u a7, .i a8, .b b0, .i b1, .b b2, .u b3, .i b4, .i b5, .b b6, .u b7, .i b8] ∧ w'.cell? ⟨bb, off + ii * 19 + 18, none⟩ = some (.i 0)) (ds := []) (bq 68 0) (by kernel_rfl) rfl rfl ⟨BX, BY, BG, BA, Rng.below RA.out HBd hbb, Rng.below RB.out HBd hbb, Rng.below RP.out HBd hbb, (HBd.cell (p := ⟨bb, off + ii * 19 + 18, none⟩) hbb).trans RK.out⟩ (fun hHeld => ?_)
    generalize hWW : World.drew _ = w11 at BX BY BG BA HBd hHeld ⊢
    clear hWW
    refine pux 0 73 (bq 68 1) ?_ ?_ (fun _ => ?_) ?_ ?_
    rotate_left 2
    ·go_simp
     with_reducible rfl
    ·simp only [Act.put, pA, pB, pC]
     rfl
    refine pux 1 74 (bq 68 3) ?_ ?_ (fun _ => ?_) ?_ ?_
    rotate_left 2
    ·go_simp
     with_reducible rfl
    ·simp only [Act.put, pA, pB, pC]
     rfl
    refine pux 2 75 (bq 68 7) ?_ ?_ (fun _ => ?_) ?_ ?_
    rotate_left 2
    ·go_simp
     with_reducible rfl
    ·simp only [Act.put, pA, pB, pC]
     rfl
    refine pux 3 76 (bq 68 15) ?_ ?_ (fun _ => ?_) ?_ ?_
    rotate_left 2
    ·go_simp
     with_reducible rfl
    ·simp only [Act.put, pA, pB, pC]
     rfl
    refine pux 4 77 (bq 68 31) ?_ ?_ (fun _ => ?_) ?_ ?_
    rotate_left 2
    ·go_simp
     with_reducible rfl
    ·simp only [Act.put, pA, pB, pC]
     rfl
    refine tax 5 78 (bq 68 63) rfl (.agg #[.b a0, .i a1, .b a2, .u a3, .i a4, .i a5, .b a6, .u a7, .i a8]) ?_ hHeld (yieldsIf_load_mid (by rfl) 26 (.tmp 77) rfl bb (off + ii * 19) rfl [.b a0, .i a1, .b a2, .u a3, .i a4, .i a5, .b a6, .u a7, .i a8] _ (fun _ h => h.2.2.2.2.1) Try.underlying26 rfl (by kernel_rfl)) ?_ ?_
    rotate_left
    ·simp only [Act.put, pA, pB, pC]
     rfl
    refine tax 6 79 (bq 68 127) rfl (.agg #[.b u0, .i u1, .b u2, .u u3, .i u4, .i u5, .b u6, .u u7, .i u8]) ?_ hHeld (yieldsIf_load_mid (by rfl) 26 (.tmp 14) rfl ga 0 rfl [.b u0, .i u1, .b u2, .u u3, .i u4, .i u5, .b u6, .u u7, .i u8] _ (fun _ h => Blk.range h.2.2.2.1 0 _ rfl) Try.underlying26 rfl (by kernel_rfl)) ?_ ?_
    rotate_left
    ·simp only [Act.put, pA, pB, pC]
     rfl
    refine one_ (i := 7) (N := some 80) (bq 68 255) rfl rfl (by as_aux_lemma => kernel_rfl) (by decide) (fun K hK => ?_)
    refine goes_ Try.func13 (by kernel_rfl) rfl #[.agg #[.b a0, .i a1, .b a2, .u a3, .i a4, .i a5, .b a6, .u a7, .i a8], .agg #[.b u0, .i u1, .b u2, .u u3, .i u4, .i u5, .b u6, .u u7, .i u8]] (by first | rfl | go_simp) rfl rfl (by simp only [List.map_toArray, List.map_cons, List.map_nil] <;> rfl) ?_
    with_reducible refine (HWA.out _).mono ?_
    rintro e w12 ⟨rfl, hb⟩
    refine ⟨_, rfl, ?_⟩
    replace BX := BX.call hb
    replace BY := BY.call hb
    replace BG := BG.call hb
    replace BA := BA.call hb
    replace HBd := bl_trans HBd hb
    refine hK.out _ _ ⟨BX, BY, BG, BA, Rng.below RA.out HBd hbb, Rng.below RB.out HBd hbb, Rng.below RP.out HBd hbb, (HBd.cell (p := ⟨bb, off + ii * 19 + 18, none⟩) hbb).trans RK.out⟩ (fun hHeld => ?_)
    clear hK K hb
    refine norm_ (a' := ?_) ?_ ?_
    rotate_left
    ·show Act.put _ (some 80) _ = _
     simp only [Act.put, pA, pB, pC]
     rfl
    refine pux 8 81 (bq 68 511) ?_ ?_ (fun _ => ?_) ?_ ?_
    rotate_left 2
    ·go_simp
     with_reducible rfl
    ·simp only [Act.put, pA, pB, pC]
     rfl
    refine pux 9 82 (bq 68 1023) ?_ ?_ (fun _ => ?_) ?_ ?_
    rotate_left 2
    ·go_simp
     with_reducible rfl
    ·simp only [Act.put, pA, pB, pC]
     rfl
    refine pux 10 83 (bq 68 2047) ?_ ?_ (fun _ => ?_) ?_ ?_
    rotate_left 2
    ·go_simp
     with_reducible rfl
    ·simp only [Act.put, pA, pB, pC]
     rfl
    refine pux 11 84 (bq 68 4095) ?_ ?_ (fun _ => ?_) ?_ ?_
    rotate_left 2
    ·go_simp
     with_reducible rfl
    ·simp only [Act.put, pA, pB, pC]
     rfl
    refine pux 12 85 (bq 68 8191) ?_ ?_ (fun _ => ?_) ?_ ?_
    rotate_left 2
    ·go_simp
     with_reducible rfl
    ·simp only [Act.put, pA, pB, pC]
     rfl
    refine pux 13 86 (bq 68 16383) ?_ ?_ (fun _ => ?_) ?_ ?_
    rotate_left 2
    ·go_simp
     with_reducible rfl
    ·simp only [Act.put, pA, pB, pC]
     rfl
    refine pux 14 87 (bq 68 32767) ?_ ?_ (fun _ => ?_) ?_ ?_
    rotate_left 2
    ·go_simp
     with_reducible rfl
    ·simp only [Act.put, pA, pB, pC]
     rfl
    refine tax 15 88 (bq 68 65535) rfl (.agg #[.b b0, .i b1, .b b2, .u b3, .i b4, .i b5, .b b6, .u b7, .i b8]) ?_ hHeld (yieldsIf_load_mid (by rfl) 26 (.tmp 87) rfl bb (off + ii * 19 + 9) rfl [.b b0, .i b1, .b b2, .u b3, .i b4, .i b5, .b b6, .u b7, .i b8] _ (fun _ h => h.2.2.2.2.2.1) Try.underlying26 rfl (by kernel_rfl)) ?_ ?_
    rotate_left
    ·simp only [Act.put, pA, pB, pC]
     rfl
    refine tax 16 89 (bq 68 131071) rfl (.agg #[.b u0, .i u1, .b u2, .u u3, .i u4, .i u5, .b u6, .u u7, .i u8]) ?_ hHeld (yieldsIf_load_mid (by rfl) 26 (.tmp 14) rfl ga 0 rfl [.b u0, .i u1, .b u2, .u u3, .i u4, .i u5, .b u6, .u u7, .i u8] _ (fun _ h => Blk.range h.2.2.2.1 0 _ rfl) Try.underlying26 rfl (by kernel_rfl)) ?_ ?_
    rotate_left
    ·simp only [Act.put, pA, pB, pC]
     rfl
    refine one_ (i := 17) (N := some 90) (bq 68 262143) rfl rfl (by as_aux_lemma => kernel_rfl) (by decide) (fun K hK => ?_)
    refine goes_ Try.func13 (by kernel_rfl) rfl #[.agg #[.b b0, .i b1, .b b2, .u b3, .i b4, .i b5, .b b6, .u b7, .i b8], .agg #[.b u0, .i u1, .b u2, .u u3, .i u4, .i u5, .b u6, .u u7, .i u8]] (by first | rfl | go_simp) rfl rfl (by simp only [List.map_toArray, List.map_cons, List.map_nil] <;> rfl) ?_
    with_reducible refine (HWB.out _).mono ?_
    rintro e w13 ⟨rfl, hb⟩
    refine ⟨_, rfl, ?_⟩
    replace BX := BX.call hb
    replace BY := BY.call hb
    replace BG := BG.call hb
    replace BA := BA.call hb
    replace HBd := bl_trans HBd hb
    refine hK.out _ _ ⟨BX, BY, BG, BA, Rng.below RA.out HBd hbb, Rng.below RB.out HBd hbb, Rng.below RP.out HBd hbb, (HBd.cell (p := ⟨bb, off + ii * 19 + 18, none⟩) hbb).trans RK.out⟩ (fun hHeld => ?_)
    clear hK K hb
    refine norm_ (a' := ?_) ?_ ?_
    rotate_left
    ·show Act.put _ (some 90) _ = _
     simp only [Act.put, pA, pB, pC]
     rfl
    refine pux 18 91 (bq 68 524287) ?_ ?_ (fun _ => ?_) ?_ ?_
    rotate_left 2
    ·go_simp
     with_reducible rfl
    ·simp only [Act.put, pA, pB, pC]
     rfl
    refine pux 19 92 (bq 68 1048575) ?_ ?_ (fun _ => ?_) ?_ ?_
    rotate_left 2
    ·go_simp
     with_reducible rfl
    ·simp only [Act.put, pA, pB, pC]
     rfl
    refine pux 20 93 (bq 68 2097151) ?_ ?_ (fun _ => ?_) ?_ ?_
    rotate_left 2
    ·go_simp
     with_reducible rfl
    ·simp only [Act.put, pA, pB, pC]
     rfl
    refine pux 21 94 (bq 68 4194303) ?_ ?_ (fun _ => ?_) ?_ ?_
    rotate_left 2
    ·go_simp
     with_reducible rfl
    ·simp only [Act.put, pA, pB, pC]
     rfl
    refine pux 22 95 (bq 68 8388607) ?_ ?_ (fun _ => ?_) ?_ ?_
    rotate_left 2
    ·go_simp
     with_reducible rfl
    ·simp only [Act.put, pA, pB, pC]
     rfl
    refine pux 23 96 (bq 68 16777215) ?_ ?_ (fun _ => ?_) ?_ ?_
    rotate_left 2
    ·go_simp
     with_reducible rfl
    ·simp only [Act.put, pA, pB, pC]
     rfl
    refine pux 24 97 (bq 68 33554431) ?_ ?_ (fun _ => ?_) ?_ ?_
    rotate_left 2
    ·go_simp
     with_reducible rfl
    ·simp only [Act.put, pA, pB, pC]
     rfl
    refine take_ (i := 25) (N := some 98) (v := ?_) (a' := ?_) (bq 68 67108863) rfl rfl (by as_aux_lemma => kernel_rfl) (fun _ _ _ h => h) (Or.inl ⟨by rfl, ?_⟩) hHeld ?_ ?_
    rotate_left
    ·rintro w' ⟨s0_, s1_, s2_, s3_, s4_, s5_, s6_, s7_⟩
     go_simp
     with_reducible rfl
    rotate_left
    ·simp only [Act.put, pA, pB, pC]
     rfl
    refine pux 26 99 (bq 68 134217727) ?_ ?_ (fun _ => ?_) ?_ ?_
    rotate_left 2
    ·go_simp
     with_reducible rfl
    ·simp only [Act.put, pA, pB, pC]
     rfl
    refine pux 27 100 (bq 68 268435455) ?_ ?_ (fun _ => ?_) ?_ ?_
    rotate_left 2
    ·go_simp
     with_reducible rfl
    ·simp only [Act.put, pA, pB, pC]
     rfl
    refine tax 28 101 (bq 68 536870911) rfl (.agg #[.i s0, .b s1, .u s2, .i s3, .b i0, .i i1, .b i2, .u i3, .i i4, .i i5, .b i6, .u i7, .i i8, .slice A n c]) ?_ hHeld (yieldsIf_load_mid (by rfl) 29 (.tmp 5) rfl w.heap.size 0 rfl [.i s0, .b s1, .u s2, .i s3, .b i0, .i i1, .b i2, .u i3, .i i4, .i i5, .b i6, .u i7, .i i8, .slice A n c] _ (fun _ h => Blk.range h.1 0 _ rfl) Try.underlying29 rfl (by kernel_rfl)) ?_ ?_
    rotate_left
    ·simp only [Act.put, pA, pB, pC]
     rfl
    refine tax 29 102 (bq 68 1073741823) rfl (.agg #[.i t0, .b t1, .u t2, .i t3, .b j0, .i j1, .b j2, .u j3, .i j4, .i j5, .b j6, .u j7, .i j8, .slice B m d]) ?_ hHeld (yieldsIf_load_mid (by rfl) 29 (.tmp 6) rfl (w.heap.size + 1) 0 rfl [.i t0, .b t1, .u t2, .i t3, .b j0, .i j1, .b j2, .u j3, .i j4, .i j5, .b j6, .u j7, .i j8, .slice B m d] _ (fun _ h => Blk.range h.2.1 0 _ rfl) Try.underlying29 rfl (by kernel_rfl)) ?_ ?_
    rotate_left
    ·simp only [Act.put, pA, pB, pC]
     rfl
    refine tax 30 103 (bq 68 2147483647) rfl (.agg #[.i g0, .b g1, .u g2, .i g3]) ?_ hHeld (yieldsIf_load_mid (by rfl) 24 (.tmp 7) rfl (w.heap.size + 2) 0 rfl [.i g0, .b g1, .u g2, .i g3] _ (fun _ h => Blk.range h.2.2.1 0 _ rfl) Try.underlying24 rfl (by kernel_rfl)) ?_ ?_
    rotate_left
    ·simp only [Act.put, pA, pB, pC]
     rfl
    refine pux 31 104 (bq 68 4294967295) ?_ ?_ (fun _ => ?_) ?_ ?_
    rotate_left 2
    ·go_simp
     with_reducible rfl
    ·simp only [Act.put, pA, pB, pC]
     rfl
    refine pux 32 105 (bq 68 8589934591) ?_ ?_ (fun _ => ?_) ?_ ?_
    rotate_left 2
    ·go_simp
     with_reducible rfl
    ·simp only [Act.put, pA, pB, pC]
     rfl
    refine pux 33 106 (bq 68 17179869183) ?_ ?_ (fun _ => ?_) ?_ ?_
    rotate_left 2
    ·go_simp
     with_reducible rfl
    ·simp only [Act.put, pA, pB, pC]
     rfl
    refine pux 34 107 (bq 68 34359738367) ?_ ?_ (fun _ => ?_) ?_ ?_
    rotate_left 2
    ·go_simp
     with_reducible rfl
    ·simp only [Act.put, pA, pB, pC]
     rfl
    refine tax 35 108 (bq 68 68719476735) rfl (.agg #[.b a0, .i a1, .b a2, .u a3, .i a4, .i a5, .b a6, .u a7, .i a8, .b b0, .i b1, .b b2, .u b3, .i b4, .i b5, .b b6, .u b7, .i b8]) ?_ hHeld (yieldsIf_load_mid (by rfl) 42 (.tmp 107) rfl bb (off + ii * 19) rfl [.b a0, .i a1, .b a2, .u a3, .i a4, .i a5, .b a6, .u a7, .i a8, .b b0, .i b1, .b b2, .u b3, .i b4, .i b5, .b b6, .u b7, .i b8] _ (fun _ h => h.2.2.2.2.2.2.1) Try.underlying42 rfl (by kernel_rfl)) ?_ ?_
    rotate_left
    ·simp only [Act.put, pA, pB, pC]
     rfl
    refine one_ (i := 36) (N := some 109) (bq 68 137438953471) rfl rfl (by as_aux_lemma => kernel_rfl) (by decide) (fun K hK => ?_)
    refine goes_ Try.func14 (by kernel_rfl) rfl #[.agg #[.i s0, .b s1, .u s2, .i s3, .b i0, .i i1, .b i2, .u i3, .i i4, .i i5, .b i6, .u i7, .i i8, .slice A n c], .agg #[.i t0, .b t1, .u t2, .i t3, .b j0, .i j1, .b j2, .u j3, .i j4, .i j5, .b j6, .u j7, .i j8, .slice B m d], .agg #[.i g0, .b g1, .u g2, .i g3], .agg #[.b a0, .i a1, .b a2, .u a3, .i a4, .i a5, .b a6, .u a7, .i a8, .b b0, .i b1, .b b2, .u b3, .i b4, .i b5, .b b6, .u b7, .i b8]] (by first | rfl | go_simp) rfl rfl (by simp only [List.map_toArray, List.map_cons, List.map_nil] <;> rfl) ?_
    with_reducible refine (HO.out _ (hs10.out.on HBd) (ht10.out.on HBd)).mono ?_
    rintro e w14 ⟨rfl, hb⟩
    refine ⟨_, rfl, ?_⟩
    replace BX := BX.call hb
    replace BY := BY.call hb
    replace BG := BG.call hb
    replace BA := BA.call hb
    replace HBd := bl_trans HBd hb
    refine hK.out _ _ ⟨BX, BY, BG, BA, Rng.below RA.out HBd hbb, Rng.below RB.out HBd hbb, Rng.below RP.out HBd hbb, (HBd.cell (p := ⟨bb, off + ii * 19 + 18, none⟩) hbb).trans RK.out⟩ (fun hHeld => ?_)
    clear hK K hb
    refine norm_ (a' := ?_) ?_ ?_
    rotate_left
    ·show Act.put _ (some 109) _ = _
     simp only [Act.put, pA, pB, pC]
     rfl
    refine pux 37 110 (bq 68 274877906943) ?_ ?_ (fun _ => ?_) ?_ ?_
    rotate_left 2
    ·go_simp
     with_reducible rfl
    ·simp only [Act.put, pA, pB, pC]
     rfl
    refine pux 38 111 (bq 68 549755813887) ?_ ?_ (fun _ => ?_) ?_ ?_
    rotate_left 2
    ·go_simp
     with_reducible rfl
    ·simp only [Act.put, pA, pB, pC]
     rfl
    refine pux 39 112 (bq 68 1099511627775) ?_ ?_ (fun _ => ?_) ?_ ?_
    rotate_left 2
    ·go_simp
     with_reducible rfl
    ·simp only [Act.put, pA, pB, pC]
     rfl
    refine pux 40 113 (bq 68 2199023255551) ?_ ?_ (fun _ => ?_) ?_ ?_
    rotate_left 2
    ·go_simp
     with_reducible rfl
    ·simp only [Act.put, pA, pB, pC]
     rfl
    refine pux 41 114 (bq 68 4398046511103) ?_ ?_ (fun _ => ?_) ?_ ?_
    rotate_left 2
    ·go_simp
     with_reducible rfl
    ·simp only [Act.put, pA, pB, pC]
     rfl
    refine pux 42 115 (bq 68 8796093022207) ?_ ?_ (fun _ => ?_) ?_ ?_
    rotate_left 2
    ·go_simp
     with_reducible rfl
    ·simp only [Act.put, pA, pB, pC]
     rfl
    refine pux 43 116 (bq 68 17592186044415) ?_ ?_ (fun _ => ?_) ?_ ?_
    rotate_left 2
    ·go_simp
     with_reducible rfl
    ·simp only [Act.put, pA, pB, pC]
     rfl
    refine take_ (i := 44) (N := some 117) (v := ?_) (a' := ?_) (bq 68 35184372088831) rfl rfl (by as_aux_lemma => kernel_rfl) (fun _ _ _ h => h) (Or.inl ⟨by rfl, ?_⟩) hHeld ?_ ?_
    rotate_left
    ·rintro w' ⟨s0_, s1_, s2_, s3_, s4_, s5_, s6_, s7_⟩
     go_simp
     with_reducible rfl
    rotate_left
    ·simp only [Act.put, pA, pB, pC]
     rfl
    refine pux 45 118 (bq 68 70368744177663) ?_ ?_ (fun _ => ?_) ?_ ?_
    rotate_left 2
    ·go_simp
     with_reducible rfl
    ·simp only [Act.put, pA, pB, pC]
     rfl
    refine pux 46 119 (bq 68 140737488355327) ?_ ?_ (fun _ => ?_) ?_ ?_
    rotate_left 2
    ·go_simp
     with_reducible rfl
    ·simp only [Act.put, pA, pB, pC]
     rfl
    refine pure_ (i := 47) (N := some 120) (v := undef) (a' := ?_) (bq 68 281474976710655) rfl rfl (by as_aux_lemma => kernel_rfl) (fun _ _ _ h => h) (Or.inr ⟨by rfl, rfl⟩) ?_ ?_
    rotate_left
    ·simp only [Act.put, pA, pB, pC]
     rfl
    refine pure_ (i := 48) (N := some 121) (v := undef) (a' := ?_) (bq 68 562949953421311) rfl rfl (by as_aux_lemma => kernel_rfl) (fun _ _ _ h => h) (Or.inr ⟨by rfl, rfl⟩) ?_ ?_
    rotate_left
    ·simp only [Act.put, pA, pB, pC]
     rfl
    refine pure_ (i := 49) (N := some 122) (v := undef) (a' := ?_) (bq 68 1125899906842623) rfl rfl (by as_aux_lemma => kernel_rfl) (fun _ _ _ h => h) (Or.inr ⟨by rfl, rfl⟩) ?_ ?_
    rotate_left
    ·simp only [Act.put, pA, pB, pC]
     rfl
    refine pux 50 123 (bq 68 2251799813685247) ?_ ?_ (fun _ => ?_) ?_ ?_
    rotate_left 2
    ·go_simp
     with_reducible rfl
    ·simp only [Act.put, pA, pB, pC]
     rfl
    refine pux 51 124 (bq 68 4503599627370495) ?_ ?_ (fun _ => ?_) ?_ ?_
    rotate_left 2
    ·go_simp
     with_reducible rfl
    ·simp only [Act.put, pA, pB, pC]
     rfl
    refine pux 52 125 (bq 68 9007199254740991) ?_ ?_ (fun _ => ?_) ?_ ?_
    rotate_left 2
    ·go_simp
     with_reducible rfl
    ·simp only [Act.put, pA, pB, pC]
     rfl
    refine pux 53 126 (bq 68 18014398509481983) ?_ ?_ (fun _ => ?_) ?_ ?_
    rotate_left 2
    ·go_simp
     with_reducible rfl
    ·simp only [Act.put, pA, pB, pC]
     rfl
    refine pux 54 127 (bq 68 36028797018963967) ?_ ?_ (fun _ => ?_) ?_ ?_
    rotate_left 2
    ·go_simp
     with_reducible rfl
    ·simp only [Act.put, pA, pB, pC]
     rfl
    refine pux 55 128 (bq 68 72057594037927935) ?_ ?_ (fun _ => ?_) ?_ ?_
    rotate_left 2
    ·go_simp
     with_reducible rfl
    ·simp only [Act.put, pA, pB, pC]
     rfl
    refine pux 56 129 (bq 68 144115188075855871) ?_ ?_ (fun _ => ?_) ?_ ?_
    rotate_left 2
    ·go_simp
     with_reducible rfl
    ·simp only [Act.put, pA, pB, pC]
     rfl
    refine take_ (i := 57) (N := some 130) (v := ?_) (a' := ?_) (bq 68 288230376151711743) rfl rfl (by as_aux_lemma => kernel_rfl) (fun _ _ _ h => h) (Or.inl ⟨by rfl, ?_⟩) hHeld ?_ ?_
    rotate_left
    ·rintro w' ⟨s0_, s1_, s2_, s3_, s4_, s5_, s6_, s7_⟩
     go_simp
     with_reducible rfl
    rotate_left
    ·simp only [Act.put, pA, pB, pC]
     rfl
    refine pux 58 131 (bq 68 576460752303423487) ?_ ?_ (fun _ => ?_) ?_ ?_
    rotate_left 2
    ·go_simp
     with_reducible rfl
    ·simp only [Act.put, pA, pB, pC]
     rfl
    refine pux 59 132 (bq 68 1152921504606846975) ?_ ?_ (fun _ => ?_) ?_ ?_
    rotate_left 2
    ·go_simp
     with_reducible rfl
    ·simp only [Act.put, pA, pB, pC]
     rfl
    refine pux 60 133 (bq 68 2305843009213693951) ?_ ?_ (fun _ => ?_) ?_ ?_
    rotate_left 2
    ·go_simp
     with_reducible rfl
    ·simp only [Act.put, pA, pB, pC]
     rfl
    refine pux 61 134 (bq 68 4611686018427387903) ?_ ?_ (fun _ => ?_) ?_ ?_
    rotate_left 2
    ·go_simp
     with_reducible rfl
    ·simp only [Act.put, pA, pB, pC]
     rfl
    refine pux 62 135 (bq 68 9223372036854775807) ?_ ?_ (fun _ => ?_) ?_ ?_
    rotate_left 2
    ·go_simp
     with_reducible rfl
    ·simp only [Act.put, pA, pB, pC]
     rfl
    refine pux 63 136 (bq 68 18446744073709551615) ?_ ?_ (fun _ => ?_) ?_ ?_
    rotate_left 2
    ·go_simp
     with_reducible rfl
    ·simp only [Act.put, pA, pB, pC]
     rfl
    refine pux 64 137 (bq 68 36893488147419103231) ?_ ?_ (fun _ => ?_) ?_ ?_
    rotate_left 2
    ·go_simp
     with_reducible rfl
    ·simp only [Act.put, pA, pB, pC]
     rfl
    refine take_ (i := 65) (N := some 138) (v := ?_) (a' := ?_) (bq 68 73786976294838206463) rfl rfl (by as_aux_lemma => kernel_rfl) (fun _ _ _ h => h) (Or.inl ⟨by rfl, ?_⟩) hHeld ?_ ?_
    rotate_left
    ·rintro w' ⟨s0_, s1_, s2_, s3_, s4_, s5_, s6_, s7_⟩
     go_simp
     with_reducible rfl
    rotate_left
    ·simp only [Act.put, pA, pB, pC]
     rfl
    refine pux 66 139 (bq 68 147573952589676412927) ?_ ?_ (fun _ => ?_) ?_ ?_
    rotate_left 2
    ·go_simp
     with_reducible rfl
    ·simp only [Act.put, pA, pB, pC]
     rfl
    refine pux 67 140 (bq 68 295147905179352825855) ?_ ?_ (fun _ => ?_) ?_ ?_
    rotate_left 2
    ·go_simp
     with_reducible rfl
    ·simp only [Act.put, pA, pB, pC]
     rfl
    refine done_ (by as_aux_lemma => kernel_rfl) ?_
    clear hHeld
    go_wp2_with fail
    exact ⟨⟨ii + 1, hlt, by simp, HBd⟩, by simp [intOf]; omega⟩
   ·subst hkk
    clear HO
    go_wp2_with fail
    replace BX := BX.drew
    replace BY := BY.drew
    replace BG := BG.drew
    replace BA := BA.drew
    replace HBd := bl_drew HBd
    refine start_ (n := 68) (S := fun w' => Blk w' w.heap.size 29 #[.i s0, .b s1, .u s2, .i s3, .b i0, .i i1, .b i2, .u i3, .i i4, .i i5, .b i6, .u i7, .i i8, .slice A n c] ∧ Blk w' (w.heap.size + 1) 29 #[.i t0, .b t1, .u t2, .i t3, .b j0, .i j1, .b j2, .u j3, .i j4, .i j5, .b j6, .u j7, .i j8, .slice B m d] ∧ Blk w' (w.heap.size + 2) 24 #[.i g0, .b g1, .u g2, .i g3] ∧ Blk w' ga 26 #[.b u0, .i u1, .b u2, .u u3, .i u4, .i u5, .b u6, .u u7, .i u8] ∧ w'.rangeAt bb (off + ii * 19) [.b a0, .i a1, .b a2, .u a3, .i a4, .i a5, .b a6, .u a7, .i a8] ∧ w'.rangeAt bb (off + ii * 19 + 9) [.b b0, .i b1, .b b2, .u b3, .i b4, .i b5, .b b6, .u b7, .i b8] ∧ w'.rangeAt bb (off + ii * 19) [.b a0, .i a1, .b a2, .u a3, .i a4, .i a5, .b a6, .u a7, .i a8, .b b0, .i b1, .b b2, .u b3, .i b4, .i b5, .b b6, .u b7, .i b8] ∧ w'.cell? ⟨bb, off + ii * 19 + 18, none⟩ = some (.i 1)) (ds := []) (bq 68 0) (by kernel_rfl) rfl rfl ⟨BX, BY, BG, BA, Rng.below RA.out HBd hbb, Rng.below RB.out HBd hbb, Rng.below RP.out HBd hbb, (HBd.cell (p := ⟨bb, off + ii * 19 + 18, none⟩) hbb).trans RK.out⟩ (fun hHeld => ?_)
    generalize hWW : World.drew _ = w11 at BX BY BG BA HBd hHeld ⊢
    clear hWW
    refine pux 0 73 (bq 68 1) ?_ ?_ (fun _ => ?_) ?_ ?_
    rotate_left 2
    ·go_simp
     with_reducible rfl
    ·simp only [Act.put, pA, pB, pC]
     rfl
    refine pux 1 74 (bq 68 3) ?_ ?_ (fun _ => ?_) ?_ ?_
    rotate_left 2
    ·go_simp
     with_reducible rfl
    ·simp only [Act.put, pA, pB, pC]
     rfl
    refine pux 2 75 (bq 68 7) ?_ ?_ (fun _ => ?_) ?_ ?_
    rotate_left 2
    ·go_simp
     with_reducible rfl
    ·simp only [Act.put, pA, pB, pC]
     rfl
    refine pux 3 76 (bq 68 15) ?_ ?_ (fun _ => ?_) ?_ ?_
    rotate_left 2
    ·go_simp
     with_reducible rfl
    ·simp only [Act.put, pA, pB, pC]
     rfl
    refine pux 4 77 (bq 68 31) ?_ ?_ (fun _ => ?_) ?_ ?_
    rotate_left 2
    ·go_simp
     with_reducible rfl
    ·simp only [Act.put, pA, pB, pC]
     rfl
    refine tax 5 78 (bq 68 63) rfl (.agg #[.b a0, .i a1, .b a2, .u a3, .i a4, .i a5, .b a6, .u a7, .i a8]) ?_ hHeld (yieldsIf_load_mid (by rfl) 26 (.tmp 77) rfl bb (off + ii * 19) rfl [.b a0, .i a1, .b a2, .u a3, .i a4, .i a5, .b a6, .u a7, .i a8] _ (fun _ h => h.2.2.2.2.1) Try.underlying26 rfl (by kernel_rfl)) ?_ ?_
    rotate_left
    ·simp only [Act.put, pA, pB, pC]
     rfl
    refine tax 6 79 (bq 68 127) rfl (.agg #[.b u0, .i u1, .b u2, .u u3, .i u4, .i u5, .b u6, .u u7, .i u8]) ?_ hHeld (yieldsIf_load_mid (by rfl) 26 (.tmp 14) rfl ga 0 rfl [.b u0, .i u1, .b u2, .u u3, .i u4, .i u5, .b u6, .u u7, .i u8] _ (fun _ h => Blk.range h.2.2.2.1 0 _ rfl) Try.underlying26 rfl (by kernel_rfl)) ?_ ?_
    rotate_left
    ·simp only [Act.put, pA, pB, pC]
     rfl
    refine one_ (i := 7) (N := some 80) (bq 68 255) rfl rfl (by as_aux_lemma => kernel_rfl) (by decide) (fun K hK => ?_)
    refine goes_ Try.func13 (by kernel_rfl) rfl #[.agg #[.b a0, .i a1, .b a2, .u a3, .i a4, .i a5, .b a6, .u a7, .i a8], .agg #[.b u0, .i u1, .b u2, .u u3, .i u4, .i u5, .b u6, .u u7, .i u8]] (by first | rfl | go_simp) rfl rfl (by simp only [List.map_toArray, List.map_cons, List.map_nil] <;> rfl) ?_
    with_reducible refine (HWA.out _).mono ?_
    rintro e w12 ⟨rfl, hb⟩
    refine ⟨_, rfl, ?_⟩
    replace BX := BX.call hb
    replace BY := BY.call hb
    replace BG := BG.call hb
    replace BA := BA.call hb
    replace HBd := bl_trans HBd hb
    refine hK.out _ _ ⟨BX, BY, BG, BA, Rng.below RA.out HBd hbb, Rng.below RB.out HBd hbb, Rng.below RP.out HBd hbb, (HBd.cell (p := ⟨bb, off + ii * 19 + 18, none⟩) hbb).trans RK.out⟩ (fun hHeld => ?_)
    clear hK K hb
    refine norm_ (a' := ?_) ?_ ?_
    rotate_left
    ·show Act.put _ (some 80) _ = _
     simp only [Act.put, pA, pB, pC]
     rfl
    refine pux 8 81 (bq 68 511) ?_ ?_ (fun _ => ?_) ?_ ?_
    rotate_left 2
    ·go_simp
     with_reducible rfl
    ·simp only [Act.put, pA, pB, pC]
     rfl
    refine pux 9 82 (bq 68 1023) ?_ ?_ (fun _ => ?_) ?_ ?_
    rotate_left 2
    ·go_simp
     with_reducible rfl
    ·simp only [Act.put, pA, pB, pC]
     rfl
    refine pux 10 83 (bq 68 2047) ?_ ?_ (fun _ => ?_) ?_ ?_
    rotate_left 2
    ·go_simp
     with_reducible rfl
    ·simp only [Act.put, pA, pB, pC]
     rfl
    refine pux 11 84 (bq 68 4095) ?_ ?_ (fun _ => ?_) ?_ ?_
    rotate_left 2
    ·go_simp
     with_reducible rfl
    ·simp only [Act.put, pA, pB, pC]
     rfl
    refine pux 12 85 (bq 68 8191) ?_ ?_ (fun _ => ?_) ?_ ?_
    rotate_left 2
    ·go_simp
     with_reducible rfl
    ·simp only [Act.put, pA, pB, pC]
     rfl
    refine pux 13 86 (bq 68 16383) ?_ ?_ (fun _ => ?_) ?_ ?_
    rotate_left 2
    ·go_simp
     with_reducible rfl
    ·simp only [Act.put, pA, pB, pC]
     rfl
    refine pux 14 87 (bq 68 32767) ?_ ?_ (fun _ => ?_) ?_ ?_
    rotate_left 2
    ·go_simp
     with_reducible rfl
    ·simp only [Act.put, pA, pB, pC]
     rfl
    refine tax 15 88 (bq 68 65535) rfl (.agg #[.b b0, .i b1, .b b2, .u b3, .i b4, .i b5, .b b6, .u b7, .i b8]) ?_ hHeld (yieldsIf_load_mid (by rfl) 26 (.tmp 87) rfl bb (off + ii * 19 + 9) rfl [.b b0, .i b1, .b b2, .u b3, .i b4, .i b5, .b b6, .u b7, .i b8] _ (fun _ h => h.2.2.2.2.2.1) Try.underlying26 rfl (by kernel_rfl)) ?_ ?_
    rotate_left
    ·simp only [Act.put, pA, pB, pC]
     rfl
    refine tax 16 89 (bq 68 131071) rfl (.agg #[.b u0, .i u1, .b u2, .u u3, .i u4, .i u5, .b u6, .u u7, .i u8]) ?_ hHeld (yieldsIf_load_mid (by rfl) 26 (.tmp 14) rfl ga 0 rfl [.b u0, .i u1, .b u2, .u u3, .i u4, .i u5, .b u6, .u u7, .i u8] _ (fun _ h => Blk.range h.2.2.2.1 0 _ rfl) Try.underlying26 rfl (by kernel_rfl)) ?_ ?_
    rotate_left
    ·simp only [Act.put, pA, pB, pC]
     rfl
    refine one_ (i := 17) (N := some 90) (bq 68 262143) rfl rfl (by as_aux_lemma => kernel_rfl) (by decide) (fun K hK => ?_)
    refine goes_ Try.func13 (by kernel_rfl) rfl #[.agg #[.b b0, .i b1, .b b2, .u b3, .i b4, .i b5, .b b6, .u b7, .i b8], .agg #[.b u0, .i u1, .b u2, .u u3, .i u4, .i u5, .b u6, .u u7, .i u8]] (by first | rfl | go_simp) rfl rfl (by simp only [List.map_toArray, List.map_cons, List.map_nil] <;> rfl) ?_
    with_reducible refine (HWB.out _).mono ?_
    rintro e w13 ⟨rfl, hb⟩
    refine ⟨_, rfl, ?_⟩
    replace BX := BX.call hb
    replace BY := BY.call hb
    replace BG := BG.call hb
    replace BA := BA.call hb
    replace HBd := bl_trans HBd hb
    refine hK.out _ _ ⟨BX, BY, BG, BA, Rng.below RA.out HBd hbb, Rng.below RB.out HBd hbb, Rng.below RP.out HBd hbb, (HBd.cell (p := ⟨bb, off + ii * 19 + 18, none⟩) hbb).trans RK.out⟩ (fun hHeld => ?_)
    clear hK K hb
    refine norm_ (a' := ?_) ?_ ?_
    rotate_left
    ·show Act.put _ (some 90) _ = _
     simp only [Act.put, pA, pB, pC]
     rfl
    refine pux 18 91 (bq 68 524287) ?_ ?_ (fun _ => ?_) ?_ ?_
    rotate_left 2
    ·go_simp
     with_reducible rfl
    ·simp only [Act.put, pA, pB, pC]
     rfl
    refine pux 19 92 (bq 68 1048575) ?_ ?_ (fun _ => ?_) ?_ ?_
    rotate_left 2
    ·go_simp
     with_reducible rfl
    ·simp only [Act.put, pA, pB, pC]
     rfl
    refine pux 20 93 (bq 68 2097151) ?_ ?_ (fun _ => ?_) ?_ ?_
    rotate_left 2
    ·go_simp
     with_reducible rfl
    ·simp only [Act.put, pA, pB, pC]
     rfl
    refine pux 21 94 (bq 68 4194303) ?_ ?_ (fun _ => ?_) ?_ ?_
    rotate_left 2
    ·go_simp
     with_reducible rfl
    ·simp only [Act.put, pA, pB, pC]
     rfl
    refine pux 22 95 (bq 68 8388607) ?_ ?_ (fun _ => ?_) ?_ ?_
    rotate_left 2
    ·go_simp
     with_reducible rfl
    ·simp only [Act.put, pA, pB, pC]
     rfl
    refine pux 23 96 (bq 68 16777215) ?_ ?_ (fun _ => ?_) ?_ ?_
    rotate_left 2
    ·go_simp
     with_reducible rfl
    ·simp only [Act.put, pA, pB, pC]
     rfl
    refine pux 24 97 (bq 68 33554431) ?_ ?_ (fun _ => ?_) ?_ ?_
    rotate_left 2
    ·go_simp
     with_reducible rfl
    ·simp only [Act.put, pA, pB, pC]
     rfl
    refine take_ (i := 25) (N := some 98) (v := ?_) (a' := ?_) (bq 68 67108863) rfl rfl (by as_aux_lemma => kernel_rfl) (fun _ _ _ h => h) (Or.inl ⟨by rfl, ?_⟩) hHeld ?_ ?_
    rotate_left
    ·rintro w' ⟨s0_, s1_, s2_, s3_, s4_, s5_, s6_, s7_⟩
     go_simp
     with_reducible rfl
    rotate_left
    ·simp only [Act.put, pA, pB, pC]
     rfl
    refine pux 26 99 (bq 68 134217727) ?_ ?_ (fun _ => ?_) ?_ ?_
    rotate_left 2
    ·go_simp
     with_reducible rfl
    ·simp only [Act.put, pA, pB, pC]
     rfl
    refine pux 27 100 (bq 68 268435455) ?_ ?_ (fun _ => ?_) ?_ ?_
    rotate_left 2
    ·go_simp
     with_reducible rfl
    ·simp only [Act.put, pA, pB, pC]
     rfl
    refine pure_ (i := 28) (N := some 101) (v := undef) (a' := ?_) (bq 68 536870911) rfl rfl (by as_aux_lemma => kernel_rfl) (fun _ _ _ h => h) (Or.inr ⟨by rfl, rfl⟩) ?_ ?_
    rotate_left
    ·simp only [Act.put, pA, pB, pC]
     rfl
    refine pure_ (i := 29) (N := some 102) (v := undef) (a' := ?_) (bq 68 1073741823) rfl rfl (by as_aux_lemma => kernel_rfl) (fun _ _ _ h => h) (Or.inr ⟨by rfl, rfl⟩) ?_ ?_
    rotate_left
    ·simp only [Act.put, pA, pB, pC]
     rfl
    refine pure_ (i := 30) (N := some 103) (v := undef) (a' := ?_) (bq 68 2147483647) rfl rfl (by as_aux_lemma => kernel_rfl) (fun _ _ _ h => h) (Or.inr ⟨by rfl, rfl⟩) ?_ ?_
    rotate_left
    ·simp only [Act.put, pA, pB, pC]
     rfl
    refine pure_ (i := 31) (N := some 104) (v := undef) (a' := ?_) (bq 68 4294967295) rfl rfl (by as_aux_lemma => kernel_rfl) (fun _ _ _ h => h) (Or.inr ⟨by rfl, rfl⟩) ?_ ?_
    rotate_left
    ·simp only [Act.put, pA, pB, pC]
     rfl
    refine pure_ (i := 32) (N := some 105) (v := undef) (a' := ?_) (bq 68 8589934591) rfl rfl (by as_aux_lemma => kernel_rfl) (fun _ _ _ h => h) (Or.inr ⟨by rfl, rfl⟩) ?_ ?_
    rotate_left
    ·simp only [Act.put, pA, pB, pC]
     rfl
    refine pure_ (i := 33) (N := some 106) (v := undef) (a' := ?_) (bq 68 17179869183) rfl rfl (by as_aux_lemma => kernel_rfl) (fun _ _ _ h => h) (Or.inr ⟨by rfl, rfl⟩) ?_ ?_
    rotate_left
    ·simp only [Act.put, pA, pB, pC]
     rfl
    refine pure_ (i := 34) (N := some 107) (v := undef) (a' := ?_) (bq 68 34359738367) rfl rfl (by as_aux_lemma => kernel_rfl) (fun _ _ _ h => h) (Or.inr ⟨by rfl, rfl⟩) ?_ ?_
    rotate_left
    ·simp only [Act.put, pA, pB, pC]
     rfl
    refine pure_ (i := 35) (N := some 108) (v := undef) (a' := ?_) (bq 68 68719476735) rfl rfl (by as_aux_lemma => kernel_rfl) (fun _ _ _ h => h) (Or.inr ⟨by rfl, rfl⟩) ?_ ?_
    rotate_left
    ·simp only [Act.put, pA, pB, pC]
     rfl
    refine pure_ (i := 36) (N := some 109) (v := undef) (a' := ?_) (bq 68 137438953471) rfl rfl (by as_aux_lemma => kernel_rfl) (fun _ _ _ h => h) (Or.inr ⟨by rfl, rfl⟩) ?_ ?_
    rotate_left
    ·simp only [Act.put, pA, pB, pC]
     rfl
    refine pux 37 110 (bq 68 274877906943) ?_ ?_ (fun _ => ?_) ?_ ?_
    rotate_left 2
    ·go_simp
     with_reducible rfl
    ·simp only [Act.put, pA, pB, pC]
     rfl
    refine pux 38 111 (bq 68 549755813887) ?_ ?_ (fun _ => ?_) ?_ ?_
    rotate_left 2
    ·go_simp
     with_reducible rfl
    ·simp only [Act.put, pA, pB, pC]
     rfl
    refine pux 39 112 (bq 68 1099511627775) ?_ ?_ (fun _ => ?_) ?_ ?_
    rotate_left 2
    ·go_simp
     with_reducible rfl
    ·simp only [Act.put, pA, pB, pC]
     rfl
    refine pux 40 113 (bq 68 2199023255551) ?_ ?_ (fun _ => ?_) ?_ ?_
    rotate_left 2
    ·go_simp
     with_reducible rfl
    ·simp only [Act.put, pA, pB, pC]
     rfl
    refine pux 41 114 (bq 68 4398046511103) ?_ ?_ (fun _ => ?_) ?_ ?_
    rotate_left 2
    ·go_simp
     with_reducible rfl
    ·simp only [Act.put, pA, pB, pC]
     rfl
    refine pux 42 115 (bq 68 8796093022207) ?_ ?_ (fun _ => ?_) ?_ ?_
    rotate_left 2
    ·go_simp
     with_reducible rfl
    ·simp only [Act.put, pA, pB, pC]
     rfl
    refine pux 43 116 (bq 68 17592186044415) ?_ ?_ (fun _ => ?_) ?_ ?_
    rotate_left 2
    ·go_simp
     with_reducible rfl
    ·simp only [Act.put, pA, pB, pC]
     rfl
    refine take_ (i := 44) (N := some 117) (v := ?_) (a' := ?_) (bq 68 35184372088831) rfl rfl (by as_aux_lemma => kernel_rfl) (fun _ _ _ h => h) (Or.inl ⟨by rfl, ?_⟩) hHeld ?_ ?_
    rotate_left
    ·rintro w' ⟨s0_, s1_, s2_, s3_, s4_, s5_, s6_, s7_⟩
     go_simp
     with_reducible rfl
    rotate_left
    ·simp only [Act.put, pA, pB, pC]
     rfl
    refine pux 45 118 (bq 68 70368744177663) ?_ ?_ (fun _ => ?_) ?_ ?_
    rotate_left 2
    ·go_simp
     with_reducible rfl
    ·simp only [Act.put, pA, pB, pC]
     rfl
    refine pux 46 119 (bq 68 140737488355327) ?_ ?_ (fun _ => ?_) ?_ ?_
    rotate_left 2
    ·go_simp
     with_reducible rfl
    ·simp only [Act.put, pA, pB, pC]
     rfl
    refine pux 47 120 (bq 68 281474976710655) ?_ ?_ (fun _ => ?_) ?_ ?_
    rotate_left 2
    ·go_simp
     with_reducible rfl
    ·simp only [Act.put, pA, pB, pC]
     rfl
    refine pux 48 121 (bq 68 562949953421311) ?_ ?_ (fun _ => ?_) ?_ ?_
    rotate_left 2
    ·go_simp
     with_reducible rfl
    ·simp only [Act.put, pA, pB, pC]
     rfl
    refine pux 49 122 (bq 68 1125899906842623) ?_ ?_ (fun _ => ?_) ?_ ?_
    rotate_left 2
    ·go_simp
     with_reducible rfl
    ·simp only [Act.put, pA, pB, pC]
     rfl
    refine pux 50 123 (bq 68 2251799813685247) ?_ ?_ (fun _ => ?_) ?_ ?_
    rotate_left 2
    ·go_simp
     with_reducible rfl
    ·simp only [Act.put, pA, pB, pC]
     rfl
    refine pux 51 124 (bq 68 4503599627370495) ?_ ?_ (fun _ => ?_) ?_ ?_
    rotate_left 2
    ·go_simp
     with_reducible rfl
    ·simp only [Act.put, pA, pB, pC]
     rfl
    refine pux 52 125 (bq 68 9007199254740991) ?_ ?_ (fun _ => ?_) ?_ ?_
    rotate_left 2
    ·go_simp
     with_reducible rfl
    ·simp only [Act.put, pA, pB, pC]
     rfl
    refine pux 53 126 (bq 68 18014398509481983) ?_ ?_ (fun _ => ?_) ?_ ?_
    rotate_left 2
    ·go_simp
     with_reducible rfl
    ·simp only [Act.put, pA, pB, pC]
     rfl
    refine pux 54 127 (bq 68 36028797018963967) ?_ ?_ (fun _ => ?_) ?_ ?_
    rotate_left 2
    ·go_simp
     with_reducible rfl
    ·simp only [Act.put, pA, pB, pC]
     rfl
    refine pux 55 128 (bq 68 72057594037927935) ?_ ?_ (fun _ => ?_) ?_ ?_
    rotate_left 2
    ·go_simp
     with_reducible rfl
    ·simp only [Act.put, pA, pB, pC]
     rfl
    refine pux 56 129 (bq 68 144115188075855871) ?_ ?_ (fun _ => ?_) ?_ ?_
    rotate_left 2
    ·go_simp
     with_reducible rfl
    ·simp only [Act.put, pA, pB, pC]
     rfl
    refine take_ (i := 57) (N := some 130) (v := ?_) (a' := ?_) (bq 68 288230376151711743) rfl rfl (by as_aux_lemma => kernel_rfl) (fun _ _ _ h => h) (Or.inl ⟨by rfl, ?_⟩) hHeld ?_ ?_
    rotate_left
    ·rintro w' ⟨s0_, s1_, s2_, s3_, s4_, s5_, s6_, s7_⟩
     go_simp
     with_reducible rfl
    rotate_left
    ·simp only [Act.put, pA, pB, pC]
     rfl
    refine pux 58 131 (bq 68 576460752303423487) ?_ ?_ (fun _ => ?_) ?_ ?_
    rotate_left 2
    ·go_simp
     with_reducible rfl
    ·simp only [Act.put, pA, pB, pC]
     rfl
    refine pux 59 132 (bq 68 1152921504606846975) ?_ ?_ (fun _ => ?_) ?_ ?_
    rotate_left 2
    ·go_simp
     with_reducible rfl
    ·simp only [Act.put, pA, pB, pC]
     rfl
    refine pux 60 133 (bq 68 2305843009213693951) ?_ ?_ (fun _ => ?_) ?_ ?_
    rotate_left 2
    ·go_simp
     with_reducible rfl
    ·simp only [Act.put, pA, pB, pC]
     rfl
    refine pux 61 134 (bq 68 4611686018427387903) ?_ ?_ (fun _ => ?_) ?_ ?_
    rotate_left 2
    ·go_simp
     with_reducible rfl
    ·simp only [Act.put, pA, pB, pC]
     rfl
    refine pux 62 135 (bq 68 9223372036854775807) ?_ ?_ (fun _ => ?_) ?_ ?_
    rotate_left 2
    ·go_simp
     with_reducible rfl
    ·simp only [Act.put, pA, pB, pC]
     rfl
    refine pux 63 136 (bq 68 18446744073709551615) ?_ ?_ (fun _ => ?_) ?_ ?_
    rotate_left 2
    ·go_simp
     with_reducible rfl
    ·simp only [Act.put, pA, pB, pC]
     rfl
    refine pux 64 137 (bq 68 36893488147419103231) ?_ ?_ (fun _ => ?_) ?_ ?_
    rotate_left 2
    ·go_simp
     with_reducible rfl
    ·simp only [Act.put, pA, pB, pC]
     rfl
    refine take_ (i := 65) (N := some 138) (v := ?_) (a' := ?_) (bq 68 73786976294838206463) rfl rfl (by as_aux_lemma => kernel_rfl) (fun _ _ _ h => h) (Or.inl ⟨by rfl, ?_⟩) hHeld ?_ ?_
    rotate_left
    ·rintro w' ⟨s0_, s1_, s2_, s3_, s4_, s5_, s6_, s7_⟩
     go_simp
     with_reducible rfl
    rotate_left
    ·simp only [Act.put, pA, pB, pC]
     rfl
    refine pux 66 139 (bq 68 147573952589676412927) ?_ ?_ (fun _ => ?_) ?_ ?_
    rotate_left 2
    ·go_simp
     with_reducible rfl
    ·simp only [Act.put, pA, pB, pC]
     rfl
    refine pux 67 140 (bq 68 295147905179352825855) ?_ ?_ (fun _ => ?_) ?_ ?_
    rotate_left 2
    ·go_simp
     with_reducible rfl
    ·simp only [Act.put, pA, pB, pC]
     rfl
    refine done_ (by as_aux_lemma => kernel_rfl) ?_
    clear hHeld
    go_wp2_with fail
    exact ⟨⟨ii + 1, hlt, by simp, HBd⟩, by simp [intOf]; omega⟩
 ·skip
  have hz8 := HBd.size
  refine two_ (i := 6) (j := 8) (Ni := some 56) (Nj := some 14) (bq 10 127) (bq 10 319) rfl rfl rfl rfl (by as_aux_lemma => kernel_rfl) (by decide) (by decide) (fun K hK => ?_) (fun K hK => ?_)
  ·skip
   refine goes_ Try.func11 (by kernel_rfl) rfl #[.agg #[.i s0, .b s1, .u s2, .i s3, .b i0, .i i1, .b i2, .u i3, .i i4, .i i5, .b i6, .u i7, .i i8, .slice A n c], .i (n : Int)] (by first | rfl | go_simp) rfl rfl (by simp only [List.map_toArray, List.map_cons, List.map_nil] <;> rfl) ?_
   with_reducible refine (HW.out _ (hs.out.on HBd)).mono ?_
   rintro e wv50 ⟨rfl, hb⟩
   refine ⟨_, rfl, ?_⟩
   replace BX := BX.call hb
   replace BY := BY.call hb
   replace BG := BG.call hb
   replace BF := BF.call hb
   replace HBd := bl_trans HBd hb
   have gzwv50 := hb.size
   try simp at gzwv50
   refine hK.out _ _ ⟨BX, BX.cell 13⟩ (fun hHeld => ?_)
   clear hK K hb
   refine norm_ (a' := ?_) ?_ ?_
   rotate_left
   ·show Act.put _ (some 56) _ = _
    simp only [Act.put, pA, pB, pC]
    rfl
   refine two_ (i := 7) (j := 8) (Ni := some 57) (Nj := some 14) (bq 10 255) (bq 10 383) rfl rfl rfl rfl (by as_aux_lemma => kernel_rfl) (by decide) (by decide) (fun K hK => ?_) (fun K hK => ?_)
   ·skip
    refine goes_ Try.func10 (by kernel_rfl) rfl #[.agg #[.i s0, .b s1, .u s2, .i s3], .agg #[.i q0, .b q1, .u q2, .i q3]] (by first | rfl | go_simp) rfl rfl (by simp only [List.map_toArray, List.map_cons, List.map_nil] <;> rfl) ?_
    with_reducible refine (HK.out _).mono ?_
    rintro e wv51 ⟨rfl, hb⟩
    refine ⟨_, rfl, ?_⟩
    replace BX := BX.call hb
    replace BY := BY.call hb
    replace BG := BG.call hb
    replace BF := BF.call hb
    replace HBd := bl_trans HBd hb
    have gzwv51 := hb.size
    try simp at gzwv51
    refine hK.out _ _ ⟨BX, BX.cell 13⟩ (fun hHeld => ?_)
    clear hK K hb
    refine norm_ (a' := ?_) ?_ ?_
    rotate_left
    ·show Act.put _ (some 57) _ = _
     simp only [Act.put, pA, pB, pC]
     rfl
    refine one_ (i := 8) (N := some 14) (bq 10 511) rfl rfl (by as_aux_lemma => kernel_rfl) (by decide) (fun K hK => ?_)
    refine value_ (v := ?_) (w1 := ?_) (by rfl) rfl ?_ ?_
    rotate_left 2
    ·go_simp
     first | rfl | (constructor <;> rfl)
    replace BX := BX.alloc (.cells #[.b false, .i 0, .b false, .u 0, .i 0, .i 0, .b false, .u 0, .i 0] 26)
    replace BY := BY.alloc (.cells #[.b false, .i 0, .b false, .u 0, .i 0, .i 0, .b false, .u 0, .i 0] 26)
    replace BG := BG.alloc (.cells #[.b false, .i 0, .b false, .u 0, .i 0, .i 0, .b false, .u 0, .i 0] 26)
    replace BF := BF.alloc (.cells #[.b false, .i 0, .b false, .u 0, .i 0, .i 0, .b false, .u 0, .i 0] 26)
    replace HBd := bl_alloc HBd (.cells #[.b false, .i 0, .b false, .u 0, .i 0, .i 0, .b false, .u 0, .i 0] 26)
    have BA := Blk.new wv51  26 #[.b false, .i 0, .b false, .u 0, .i 0, .i 0, .b false, .u 0, .i 0]
    refine hK.out _ _ ⟨BX, BX.cell 13⟩ (fun hHeld => ?_)
    exact norm_ (by rfl) (hJ wv51.heap.size _ ⟨⟨BX, BY, BG, BF, BA⟩, by omega, HBd⟩)
   ·skip
    refine value_ (v := ?_) (w1 := ?_) (by rfl) rfl ?_ ?_
    rotate_left 2
    ·go_simp
     first | rfl | (constructor <;> rfl)
    replace BX := BX.alloc (.cells #[.b false, .i 0, .b false, .u 0, .i 0, .i 0, .b false, .u 0, .i 0] 26)
    replace BY := BY.alloc (.cells #[.b false, .i 0, .b false, .u 0, .i 0, .i 0, .b false, .u 0, .i 0] 26)
    replace BG := BG.alloc (.cells #[.b false, .i 0, .b false, .u 0, .i 0, .i 0, .b false, .u 0, .i 0] 26)
    replace BF := BF.alloc (.cells #[.b false, .i 0, .b false, .u 0, .i 0, .i 0, .b false, .u 0, .i 0] 26)
    replace HBd := bl_alloc HBd (.cells #[.b false, .i 0, .b false, .u 0, .i 0, .i 0, .b false, .u 0, .i 0] 26)
    have BA := Blk.new wv50  26 #[.b false, .i 0, .b false, .u 0, .i 0, .i 0, .b false, .u 0, .i 0]
    refine hK.out _ _ ⟨BX, BX.cell 13⟩ (fun hHeld => ?_)
    clear hK K
    refine norm_ (a' := ?_) ?_ ?_
    rotate_left
    ·show Act.put _ (some 14) _ = _
     simp only [Act.put, pA, pB, pC]
     rfl
    refine one_ (i := 7) (N := some 57) (bq 10 511) rfl rfl (by as_aux_lemma => kernel_rfl) (by decide) (fun K hK => ?_)
    refine goes_ Try.func10 (by kernel_rfl) rfl #[.agg #[.i s0, .b s1, .u s2, .i s3], .agg #[.i q0, .b q1, .u q2, .i q3]] (by first | rfl | go_simp) rfl rfl (by simp only [List.map_toArray, List.map_cons, List.map_nil] <;> rfl) ?_
    with_reducible refine (HK.out _).mono ?_
    rintro e wv51 ⟨rfl, hb⟩
    refine ⟨_, rfl, ?_⟩
    replace BX := BX.call hb
    replace BY := BY.call hb
    replace BG := BG.call hb
    replace BF := BF.call hb
    replace BA := BA.call hb
    replace HBd := bl_trans HBd hb
    have gzwv51 := hb.size
    try simp at gzwv51
    refine hK.out _ _ ⟨BX, BX.cell 13⟩ (fun hHeld => ?_)
    exact norm_ (by rfl) (hJ wv50.heap.size _ ⟨⟨BX, BY, BG, BF, BA⟩, by omega, HBd⟩)
  ·skip
   refine value_ (v := ?_) (w1 := ?_) (by rfl) rfl ?_ ?_
   rotate_left 2
   ·go_simp
    first | rfl | (constructor <;> rfl)
   replace BX := BX.alloc (.cells #[.b false, .i 0, .b false, .u 0, .i 0, .i 0, .b false, .u 0, .i 0] 26)
   replace BY := BY.alloc (.cells #[.b false, .i 0, .b false, .u 0, .i 0, .i 0, .b false, .u 0, .i 0] 26)
   replace BG := BG.alloc (.cells #[.b false, .i 0, .b false, .u 0, .i 0, .i 0, .b false, .u 0, .i 0] 26)
   replace BF := BF.alloc (.cells #[.b false, .i 0, .b false, .u 0, .i 0, .i 0, .b false, .u 0, .i 0] 26)
   replace HBd := bl_alloc HBd (.cells #[.b false, .i 0, .b false, .u 0, .i 0, .i 0, .b false, .u 0, .i 0] 26)
   have BA := Blk.new w8  26 #[.b false, .i 0, .b false, .u 0, .i 0, .i 0, .b false, .u 0, .i 0]
   refine hK.out _ _ ⟨BX, BX.cell 13⟩ (fun hHeld => ?_)
   clear hK K
   refine norm_ (a' := ?_) ?_ ?_
   rotate_left
   ·show Act.put _ (some 14) _ = _
    simp only [Act.put, pA, pB, pC]
    rfl
   refine one_ (i := 6) (N := some 56) (bq 10 383) rfl rfl (by as_aux_lemma => kernel_rfl) (by decide) (fun K hK => ?_)
   refine goes_ Try.func11 (by kernel_rfl) rfl #[.agg #[.i s0, .b s1, .u s2, .i s3, .b i0, .i i1, .b i2, .u i3, .i i4, .i i5, .b i6, .u i7, .i i8, .slice A n c], .i (n : Int)] (by first | rfl | go_simp) rfl rfl (by simp only [List.map_toArray, List.map_cons, List.map_nil] <;> rfl) ?_
   with_reducible refine (HW.out _ (hs.out.on HBd)).mono ?_
   rintro e wv50 ⟨rfl, hb⟩
   refine ⟨_, rfl, ?_⟩
   replace BX := BX.call hb
   replace BY := BY.call hb
   replace BG := BG.call hb
   replace BF := BF.call hb
   replace BA := BA.call hb
   replace HBd := bl_trans HBd hb
   have gzwv50 := hb.size
   try simp at gzwv50
   refine hK.out _ _ ⟨BX, BX.cell 13⟩ (fun hHeld => ?_)
   clear hK K hb
   refine norm_ (a' := ?_) ?_ ?_
   rotate_left
   ·show Act.put _ (some 56) _ = _
    simp only [Act.put, pA, pB, pC]
    rfl
   refine one_ (i := 7) (N := some 57) (bq 10 511) rfl rfl (by as_aux_lemma => kernel_rfl) (by decide) (fun K hK => ?_)
   refine goes_ Try.func10 (by kernel_rfl) rfl #[.agg #[.i s0, .b s1, .u s2, .i s3], .agg #[.i q0, .b q1, .u q2, .i q3]] (by first | rfl | go_simp) rfl rfl (by simp only [List.map_toArray, List.map_cons, List.map_nil] <;> rfl) ?_
   with_reducible refine (HK.out _).mono ?_
   rintro e wv51 ⟨rfl, hb⟩
   refine ⟨_, rfl, ?_⟩
   replace BX := BX.call hb
   replace BY := BY.call hb
   replace BG := BG.call hb
   replace BF := BF.call hb
   replace BA := BA.call hb
   replace HBd := bl_trans HBd hb
   have gzwv51 := hb.size
   try simp at gzwv51
   refine hK.out _ _ ⟨BX, BX.cell 13⟩ (fun hHeld => ?_)
   exact norm_ (by rfl) (hJ w8.heap.size _ ⟨⟨BX, BY, BG, BF, BA⟩, by omega, HBd⟩)
end Go.Proofs.Yteabdeohhmbclaa.Wk
