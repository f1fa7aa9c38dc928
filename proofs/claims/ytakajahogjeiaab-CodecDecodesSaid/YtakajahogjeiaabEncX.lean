/- Walks: codec.Encode, codec.EncodeTube, with what their slices' capacity is; bytes appended. -/
import Derived.Test.YtakajahogjeiaabLawCOnce
namespace Go.Proofs.Ytakajahogjeiaab.Wk
open Go.RowKit Go.Proofs.Pl Go.Proofs.YtakajahogjeiaabW.PrintLast
set_option linter.unusedSimpArgs false
set_option linter.unusedVariables false

theorem OwnB.cap {w : World} {base n c : Nat} {A : Option Addr} {xs : List Int} (h : OwnB w base (.slice A n c) xs) : xs.length ≤ c ∧ c ≤ 9223372036854775807 := by
  rcases h.2 with ⟨h1, hn⟩ | ⟨g, cap, cur, h1, hb, hg, hnc, hcm, hcs, htake⟩
  · cases h1
    exact ⟨by omega, by omega⟩
  · cases h1
    simp only [maxLen] at hcm
    exact ⟨hnc, by omega⟩
section
variable {ops : Array Oper} {o : Oper} {a : Act} {K : Act → World → Prop} {Q : Exit → Act → World → Prop} {w : World}
theorem SlB.news {B b off n : Nat} {xs : List Int} (h : SlB w B (some ⟨b, off, none⟩) n xs) (h0 : 0 < n) : ∀ j u, (flatB xs)[j]? = some u → w.cell? ((⟨b, off, none⟩ : Addr).add j) = some u := by
  intro j u hu
  have hadd : (⟨b, off, none⟩ : Addr).add j = ⟨b, off + j, none⟩ := by
    unfold Addr.add
    split
    · next h => subst h; rfl
    · simp
  rw [hadd]
  obtain ⟨b', off', e, _, hc⟩ := h.2 h0
  cases e
  have hj : j < xs.length := by have := (List.getElem?_eq_some_iff.1 hu).1; rwa [flatB_length] at this
  rw [hc j (by have := h.1; omega)]
  simp only [flatB, List.getElem?_map, List.getElem?_eq_getElem hj, Option.map_some, Option.some.injEq] at hu
  rw [← hu]
  simp [List.getD, List.getElem?_eq_getElem hj]
theorem wpList_appBs {rest : List Oper} (hgd : o.guard = none) (s x : Operand) (ho : o.op = .call { callee := .builtin .append, args := #[s, x], argTypes := #[35, 35] }) (base : Nat) (v : Value) (xs : List Int) (hs : a.eval s = v) (hown : OwnB w base v xs) (B b off m c : Nat) (ys : List Int) (hx : a.eval x = .slice (some ⟨b, off, none⟩) m c) (hys : SlB w B (some ⟨b, off, none⟩) m ys) (hm : 0 < m) (hsm : xs.length + m ≤ 1000000) (hbase : base ≤ w.heap.size)
    (h : ∀ v' w', OwnB w' base v' (xs ++ ys) → w.grownBy w' v.ownBlock → wpList Try.prog ops Q rest (a.put o.dst v') w') : wpList Try.prog ops Q (o :: rest) a w :=
  wpList_plain hgd fun _ hK => by
    obtain ⟨i0, hi, hz0, hz1, hz2⟩ := info_parts infoByte
    obtain ⟨v', w', hr, h2, h3, _, h5⟩ := run_append_own_at (P := Try.prog) w base 35 o.type 5 i0 _ 1 1 Try.underlying35 hi hz0 hz1 hz2 rfl (by omega) v xs.length (flatB xs) hown ⟨b, off, none⟩ m c (flatB ys) (by rw [flatB_length, hys.1]; omega) (SlB.news hys hm) (by intro u hu; unfold flatB at hu; obtain ⟨z, _, rfl⟩ := List.mem_map.1 hu; rfl) (by simp only [maxLen]; omega) (by omega) hbase
    have h6 : OwnB w' base v' (xs ++ ys) := by
      unfold OwnB
      rw [flatB_app, List.length_append, hys.1]
      exact h2
    unfold Oper.wp execOp
    simp only [ho, resolve, invoke, builtin, Sem.run_bind, Sem.run_pure, Result.andThen_ok, List.map_toArray, List.map_cons, List.map_nil, hs, hx, hr]
    exact hK _ _ (h v' w' h6 h3)
end
set_option maxRecDepth 100000 in
set_option maxHeartbeats 8000000 in
theorem encodeC_calls (A : Option Addr) (n c : Nat) (xs : List Op) (w : World) (hs : SlO w w.heap.size A n xs) (hn : n ≤ 256) :
    Calls Try.prog 29 #[.slice A n c] w fun e w' => ∃ A' c', e = .returned (.tuple #[.slice A' (encAll xs).length c', .int .i64 (encErr xs)]) ∧ SlB w' w'.heap.size A' (encAll xs).length (encAll xs) ∧ ((encAll xs).length ≤ c' ∧ c' ≤ 9223372036854775807) ∧ Below w.heap.size w w' := by
  have hni : ¬ (256 : Int) < (n : Int) := by omega
  go_enter Try.func29, Try.ntmps29
  go_wp2
  go_loopw [6, 12] (fun _ i wr => ∃ k : Nat, k ≤ n ∧ i = .int .i64 k ∧ (xs.take k).all mayOp = true ∧ Wr wr w.heap.size w.heap.size (encOps (xs.take k)) ∧ Below w.heap.size w wr) (fun _ i _ => n - (intOf i).toNat)
  case atStart => exact ⟨0, Nat.zero_le _, rfl, rfl, ⟨Nat.le_refl _, _, Blk.new w _ _, OwnB.nil _ _⟩, bl_alloc (Below.refl _ _) _⟩
  case round =>
    obtain ⟨k, hk, rfl, hall, HWr, HB⟩ := hrel
    have hbs : w.heap.size ≤ wr.heap.size := HB.size
    by_cases hlt : k < n
    · obtain ⟨b, off, rfl, hbB, hcc⟩ := (hs.below HB).2 (by omega)
      obtain ⟨x, hx⟩ : ∃ x, xs[k]? = some x := ⟨_, List.getElem?_eq_getElem (show k < xs.length by have := hs.1; omega)⟩
      have hcx := hcc k _ hx
      have htk : xs.take (k + 1) = xs.take k ++ [x] := by rw [List.take_add_one, hx]; rfl
      have hen := encOps_snoc (xs.take k) x
      have hal : (xs.take (k + 1)).all mayOp = ((xs.take k).all mayOp && mayOp x) := by rw [htk]; simp
      have hbad : mayOp x = false → encAll xs = [] ∧ encErr xs = 1 := fun h => by
        have : xs.all mayOp = false := by
          rw [List.all_eq_false]
          exact ⟨_, List.mem_of_getElem? hx, by rw [h]; simp⟩
        unfold encAll encErr
        rw [this]
        exact ⟨rfl, rfl⟩
      rw [← htk] at hen
      have hlen := encOps_length (xs.take k)
      have hlk : (xs.take k).length ≤ k := by rw [List.length_take]; omega
      have hel := encOp_length x
      rw [hall, Bool.true_and] at hal
      have HM := Lib.hid (fun W => mayOp_calls x W)
      generalize hmy : mayOp x = my at HM hal hbad
      have Hen := Lib.hid hen
      have Hal := Lib.hid hal
      have Hbad := Lib.hid hbad
      have Hs := Lib.hid hs
      have hxl : (encOps (xs.take k)).length ≤ 30000 := by omega
      have hrg : World.rangeAt wr b (off + k * 32) (opCells x) := hcx
      clear hcc hx hcx htk hen hal hbad hlen hlk hall hmy hs hel
      generalize encOps (xs.take k) = L at HWr hxl Hen
      obtain ⟨_, v, hB, hO⟩ := HWr
      have hpl := hB.lt
      have hne : w.heap.size ≠ wr.heap.size := by omega
      have Hld := Lib.hid (fun (ops : Array Oper) (rest : List Oper) (op : Oper) (a : Act) (Q : Exit → Act → World → Prop) (hgd : op.guard = none) (ho : op.op = .load 82 (.tmp 14)) (hx : a.eval (.tmp 14) = .pointer (some ⟨b, off + k * 32, none⟩)) (h : wpList Try.prog ops Q rest (a.put op.dst (.agg (opCells x).toArray)) wr) =>
        wpList_load_mid hgd 82 (.tmp 14) ho b (off + k * 32) hx (opCells x) _ hrg Try.underlying82 rfl (by kernel_rfl) h)
      have HN := Lib.hid (fun xs' W h1 h2 h3 => wnum_calls w.heap.size w.heap.size xs' x.t.k x.t.n x.t.m x.t.e W h1 h2 h3)
      have hnl := encN_length x.t
      cases my
      · clear HN hnl
        go_wp2_with (first
          | (refine Hld.out _ _ _ _ _ rfl rfl rfl ?_)
          | (refine wpList_storeOp (x := x) rfl (.tmp 6) (.tmp 15) rfl rfl rfl rfl ?_
             intro W1 BX hBel
             have HB1 := hB.call hBel
             have HO1 : OwnB W1 w.heap.size v L := hO.same fun g hg => hBel.block g (hO.lt g hg).2
             have HL1 := HB.trans (hBel.mono hbs)
             clear hBel)
          | (refine wpList_load_row rfl 82 (.tmp 6) rfl wr.heap.size rfl 82 (opCells x).toArray (0, 0) _ BX Try.underlying82 rfl (by kernel_rfl) ?_)
          | (go_at_call 75; (with_reducible refine (HM.out _).mono ?_); rintro e w2 ⟨rfl, hb⟩; have HL2 := bl_trans HL1 hb; clear hb))
        go_ret2
        obtain ⟨z1, z2⟩ := Hbad.out (by simp)
        rw [z1, z2]
        exact ⟨none, 0, rfl, ⟨rfl, fun h => absurd h (by simp)⟩, ⟨Nat.le_refl _, by omega⟩, HL2⟩
      · go_wp2_with (first
          | (refine Hld.out _ _ _ _ _ rfl rfl rfl ?_)
          | (refine wpList_storeOp (x := x) rfl (.tmp 6) (.tmp 15) rfl rfl rfl rfl ?_
             intro W1 BX hBel
             have HB1 := hB.call hBel
             have HO1 : OwnB W1 w.heap.size v L := hO.same fun g hg => hBel.block g (hO.lt g hg).2
             have HL1 := HB.trans (hBel.mono hbs)
             clear hBel)
          | (refine wpList_load_row rfl 82 (.tmp 6) rfl wr.heap.size rfl 82 (opCells x).toArray (0, 0) _ BX Try.underlying82 rfl (by kernel_rfl) ?_)
          | (go_at_call 75; (with_reducible refine (HM.out _).mono ?_); rintro e w2 ⟨rfl, hb⟩; have HL2 := bl_trans HL1 hb; have HB2 := HB1.call hb; have HO2 : OwnB w2 w.heap.size v L := HO1.same fun g hg => hb.block g (HO1.lt g hg).2; have BX2 := Blk.call BX hb; obtain ⟨q0, f0⟩ := HB2.c1b; have y0 := BX2.at_ 0 (u := .int .i64 x.k) rfl; have hs2 := HL2.size; clear hb)
          | (at_builtin; refine wpList_appB rfl (.tmp 20) (.tmp 24) rfl w.heap.size v L rfl (World.ownsRow.alloc HO2 _) w2.heap.size 5 (x.k % 256) 1 rfl (Blk.new w2 _ _) (by omega) (by simp; omega) ?_
             intro v3 W3 O3 hg3
             obtain ⟨A3, n3, c3, rfl⟩ := O3.form
             have HB3 := (HB2.alloc _).grown hg3 (HO2.ne HB2 (by decide))
             have BX3 := (BX2.alloc _).grown hg3 (HO2.ne BX2 (by decide))
             have HL3 := ((HL2.alloc hs2 (.cells #[.int .u8 (x.k % 256)] 5)).grown hg3 (by simp; omega) (fun k hk => (HO2.lt k hk).1)).setCell (p := ⟨w.heap.size, 0, none⟩) (Nat.le_refl _) (.slice A3 n3 c3)
             obtain ⟨q3, f3⟩ := HB3.c1b
             have HW3 := Wr.stored (Nat.le_refl _) HB3 O3
             have BX4 := BX3.far (p := ⟨w.heap.size, 0, none⟩) (fun e => hne e.symm) (.slice A3 n3 c3)
             have hb4 := HL3.size
             have y1 := BX3.at_ 1 (u := .int .i64 x.t.k) rfl
             have y2 := BX3.at_ 2 (u := .bool x.t.n) rfl
             have y3 := BX3.at_ 3 (u := .int .u64 x.t.m) rfl
             have y4 := BX3.at_ 4 (u := .int .i64 x.t.e) rfl
             have hz3 : wr.heap.size < W3.heap.size := Blk.lt BX3
             clear hg3 q0 f0 y0)
          | (go_at_call 70; (with_reducible refine (HN.out (L ++ [x.k % 256]) _ HW3 hb4 (by rw [List.length_append, List.length_singleton]; omega)).mono ?_)
             rintro e w5 ⟨⟨v5, rfl⟩, HW5, HK5, HL5⟩
             have BX5 := HK5 _ _ _ (fun e => hne e.symm) (by decide) BX4
             have HL6 := HL3.trans HL5
             have hb5 := HL6.size
             have hz5 : wr.heap.size < w5.heap.size := Blk.lt BX5
             clear y1 y2 y3 y4 q3 f3 HN
             have y5 := BX5.at_ 5 (u := .bool x.a.emp) rfl; have y6 := BX5.at_ 6 (u := .int .i64 x.a.lo.k) rfl; have y7 := BX5.at_ 7 (u := .bool x.a.lo.n) rfl; have y8 := BX5.at_ 8 (u := .int .u64 x.a.lo.m) rfl; have y9 := BX5.at_ 9 (u := .int .i64 x.a.lo.e) rfl; have y10 := BX5.at_ 10 (u := .int .i64 x.a.hi.k) rfl; have y11 := BX5.at_ 11 (u := .bool x.a.hi.n) rfl; have y12 := BX5.at_ 12 (u := .int .u64 x.a.hi.m) rfl; have y13 := BX5.at_ 13 (u := .int .i64 x.a.hi.e) rfl; have y14 := BX5.at_ 14 (u := .bool x.b.emp) rfl; have y15 := BX5.at_ 15 (u := .int .i64 x.b.lo.k) rfl; have y16 := BX5.at_ 16 (u := .bool x.b.lo.n) rfl; have y17 := BX5.at_ 17 (u := .int .u64 x.b.lo.m) rfl; have y18 := BX5.at_ 18 (u := .int .i64 x.b.lo.e) rfl; have y19 := BX5.at_ 19 (u := .int .i64 x.b.hi.k) rfl; have y20 := BX5.at_ 20 (u := .bool x.b.hi.n) rfl; have y21 := BX5.at_ 21 (u := .int .u64 x.b.hi.m) rfl; have y22 := BX5.at_ 22 (u := .int .i64 x.b.hi.e) rfl; have y23 := BX5.at_ 23 (u := .bool x.c.emp) rfl; have y24 := BX5.at_ 24 (u := .int .i64 x.c.lo.k) rfl; have y25 := BX5.at_ 25 (u := .bool x.c.lo.n) rfl; have y26 := BX5.at_ 26 (u := .int .u64 x.c.lo.m) rfl; have y27 := BX5.at_ 27 (u := .int .i64 x.c.lo.e) rfl; have y28 := BX5.at_ 28 (u := .int .i64 x.c.hi.k) rfl; have y29 := BX5.at_ 29 (u := .bool x.c.hi.n) rfl; have y30 := BX5.at_ 30 (u := .int .u64 x.c.hi.m) rfl; have y31 := BX5.at_ 31 (u := .int .i64 x.c.hi.e) rfl)
          | (go_at_call 71; go_loud (refine (wiv_calls w.heap.size w.heap.size (L ++ [x.k % 256] ++ encN x.t) w5.heap.size 3 3 [x.a, x.b, x.c] rfl (by omega) _ _ (HW5.alloc _) (by simp; omega) (by rw [List.length_append, List.length_append, List.length_singleton]; omega) (Blk.new w5 _ _) (by omega) (ivs3 x.a x.b x.c)).mono ?_)
             rintro e w8 ⟨⟨v8, rfl⟩, HW8, HK8, HL8⟩
             have HL9 := (HL6.alloc hb5 (.cells #[.bool x.a.emp, .int .i64 x.a.lo.k, .bool x.a.lo.n, .int .u64 x.a.lo.m, .int .i64 x.a.lo.e, .int .i64 x.a.hi.k, .bool x.a.hi.n, .int .u64 x.a.hi.m, .int .i64 x.a.hi.e, .bool x.b.emp, .int .i64 x.b.lo.k, .bool x.b.lo.n, .int .u64 x.b.lo.m, .int .i64 x.b.lo.e, .int .i64 x.b.hi.k, .bool x.b.hi.n, .int .u64 x.b.hi.m, .int .i64 x.b.hi.e, .bool x.c.emp, .int .i64 x.c.lo.k, .bool x.c.lo.n, .int .u64 x.c.lo.m, .int .i64 x.c.lo.e, .int .i64 x.c.hi.k, .bool x.c.hi.n, .int .u64 x.c.hi.m, .int .i64 x.c.hi.e] 26)).trans HL8))
        go_roundw
        case rel => exact ⟨k + 1, by omega, by go_num, Hal.out, by rw [Hen.out]; unfold encOp; simp only [List.append_assoc] at HW8 ⊢; exact HW8, HL9⟩
        case measure => simp [intOf] <;> omega
    · have hkn : n = k := by omega
      subst hkn
      have et : xs.take n = xs := List.take_of_length_le (by have := hs.1; omega)
      rw [et] at HWr hall
      obtain ⟨_, v, hB, hO⟩ := HWr
      obtain ⟨A', c', rfl, S⟩ := OwnB.sl hO
      have HCap := OwnB.cap hO
      obtain ⟨q0, f0⟩ := hB.c1b
      have h1 : encAll xs = encOps xs := by unfold encAll; rw [if_pos hall]
      have h2 : encErr xs = 0 := by unfold encErr; rw [if_pos hall]
      have H1 := Lib.hid h1
      have H2 := Lib.hid h2
      clear h1 h2
      go_wp2
      go_ret2
      rw [H1.out, H2.out]
      exact ⟨A', c', rfl, S, HCap, HB⟩
set_option maxRecDepth 100000 in
set_option maxHeartbeats 8000000 in
theorem enctC_calls (s0 : Int) (s1 : Bool) (s2 s3 : Int) (i0 : Bool) (i1 : Int) (i2 : Bool) (i3 i4 i5 : Int) (i6 : Bool) (i7 i8 : Int) (A : Option Addr) (n c : Nat) (xs : List Slc) (w : World) (hs : SlT w w.heap.size A n xs) :
    Calls Try.prog 22 #[.agg #[.int .i64 s0, .bool s1, .int .u64 s2, .int .i64 s3, .bool i0, .int .i64 i1, .bool i2, .int .u64 i3, .int .i64 i4, .int .i64 i5, .bool i6, .int .u64 i7, .int .i64 i8, .slice A n c]] w fun e w' => ∃ A' c', e = .returned (.tuple #[.slice A' (encTAll ⟨⟨s0, s1, s2, s3⟩, ⟨i0, ⟨i1, i2, i3, i4⟩, ⟨i5, i6, i7, i8⟩⟩, xs⟩).length c', .int .i64 (encTErr ⟨⟨s0, s1, s2, s3⟩, ⟨i0, ⟨i1, i2, i3, i4⟩, ⟨i5, i6, i7, i8⟩⟩, xs⟩)]) ∧ SlB w' w'.heap.size A' (encTAll ⟨⟨s0, s1, s2, s3⟩, ⟨i0, ⟨i1, i2, i3, i4⟩, ⟨i5, i6, i7, i8⟩⟩, xs⟩).length (encTAll ⟨⟨s0, s1, s2, s3⟩, ⟨i0, ⟨i1, i2, i3, i4⟩, ⟨i5, i6, i7, i8⟩⟩, xs⟩) ∧ ((encTAll ⟨⟨s0, s1, s2, s3⟩, ⟨i0, ⟨i1, i2, i3, i4⟩, ⟨i5, i6, i7, i8⟩⟩, xs⟩).length ≤ c' ∧ c' ≤ 9223372036854775807) ∧ Below w.heap.size w w' := by
  have HL0 := bl_alloc (Below.refl w.heap.size w) (.cells #[.int .i64 s0, .bool s1, .int .u64 s2, .int .i64 s3, .bool i0, .int .i64 i1, .bool i2, .int .u64 i3, .int .i64 i4, .int .i64 i5, .bool i6, .int .u64 i7, .int .i64 i8, .slice A n c] 34)
  have BT0 := Blk.new w 34 #[.int .i64 s0, .bool s1, .int .u64 s2, .int .i64 s3, .bool i0, .int .i64 i1, .bool i2, .int .u64 i3, .int .i64 i4, .int .i64 i5, .bool i6, .int .u64 i7, .int .i64 i8, .slice A n c]
  have HM := Lib.hid (fun W h => tmay_calls s0 s1 s2 s3 i0 i1 i2 i3 i4 i5 i6 i7 i8 A n c xs W h)
  have hs0 := (hs.below HL0).more HL0.size
  unfold encTAll encTErr
  generalize hmt : mayT ⟨⟨s0, s1, s2, s3⟩, ⟨i0, ⟨i1, i2, i3, i4⟩, ⟨i5, i6, i7, i8⟩⟩, xs⟩ = mt at HM ⊢
  cases mt
  · simp only [Bool.false_eq_true, if_false]
    go_enter Try.func22, Try.ntmps22
    go_wp2_with (go_at_call 69; (with_reducible refine (HM.out _ hs0).mono ?_); rintro e w1 ⟨rfl, hb⟩; have HL1 := bl_trans HL0 hb; clear hb)
    go_ret2
    exact ⟨none, 0, rfl, ⟨rfl, fun h => absurd h (by simp)⟩, ⟨Nat.le_refl _, by omega⟩, HL1⟩
  have hn : n ≤ 64 := by have := mayT_len hmt; rwa [show xs.length = n from hs.1] at this
  simp only [if_true]
  unfold encT
  dsimp only
  rw [show xs.length = n from hs.1]
  have el0 := encN_length ⟨s0, s1, s2, s3⟩
  have el1 := encI_length ⟨i0, ⟨i1, i2, i3, i4⟩, ⟨i5, i6, i7, i8⟩⟩
  have HN0 := Lib.hid (fun b p xs W h1 h2 h3 => wnum_calls b p xs s0 s1 s2 s3 W h1 h2 h3)
  generalize encN ⟨s0, s1, s2, s3⟩ = n0 at HN0 el0 ⊢
  generalize hn1 : encI ⟨i0, ⟨i1, i2, i3, i4⟩, ⟨i5, i6, i7, i8⟩⟩ = n1 at el1 ⊢
  have Hn1 := Lib.hid hn1
  generalize hR : [(n : Int)] ++ n0 ++ n1 ++ encSs xs = R
  have HR := Lib.hid hR
  clear hn1 hR
  go_enter Try.func22, Try.ntmps22
  go_wp2_with (first
    | (go_at_call 69; (with_reducible refine (HM.out _ hs0).mono ?_); rintro e w1 ⟨rfl, hb⟩; have HL1 := bl_trans HL0 hb; have BT1 := BT0.call hb; have hg1 : w.heap.size < w1.heap.size := Blk.lt BT1; have t0 := BT1.at_ 0 (u := .int .i64 s0) rfl; have t1 := BT1.at_ 1 (u := .bool s1) rfl; have t2 := BT1.at_ 2 (u := .int .u64 s2) rfl; have t3 := BT1.at_ 3 (u := .int .i64 s3) rfl; have t4 := BT1.at_ 4 (u := .bool i0) rfl; have t5 := BT1.at_ 5 (u := .int .i64 i1) rfl; have t6 := BT1.at_ 6 (u := .bool i2) rfl; have t7 := BT1.at_ 7 (u := .int .u64 i3) rfl; have t8 := BT1.at_ 8 (u := .int .i64 i4) rfl; have t9 := BT1.at_ 9 (u := .int .i64 i5) rfl; have t10 := BT1.at_ 10 (u := .bool i6) rfl; have t11 := BT1.at_ 11 (u := .int .u64 i7) rfl; have t12 := BT1.at_ 12 (u := .int .i64 i8) rfl; have t13 := BT1.at_ 13 (u := .slice A n c) rfl; clear hb HM)
    | (go_at_call 70; (refine (HN0.out w.heap.size (w1.heap.size + 1) [(n : Int)] _ ⟨by omega, _, Blk.new1 w1 _ _ _, (OwnB.lit1 (Blk.new w1 5 #[.int .u8 (n : Int)]) (by omega)).alloc _⟩ (by simp; omega) (by simp)).mono ?_)
       rintro e w4 ⟨⟨v4, rfl⟩, HW4, HK4, hb⟩
       have HL3 := bl_alloc (bl_alloc HL1 (.cells #[.int .u8 (n : Int)] 5)) (.cells #[.slice (some ⟨w1.heap.size, 0, none⟩) 1 1] 84)
       have HL4 := HL3.trans hb
       have BT3 := (BT1.alloc (.cells #[.int .u8 (n : Int)] 5)).alloc (.cells #[.slice (some ⟨w1.heap.size, 0, none⟩) 1 1] 84)
       have BT4 := HK4 _ _ _ (by omega) (by decide) BT3
       have hg4 : w.heap.size < w4.heap.size := Blk.lt BT4
       have hp1 : w1.heap.size + 1 < w4.heap.size := by obtain ⟨_, v, h, _⟩ := HW4; exact Blk.lt h
       clear t0 t1 t2 t3 t4 t5 t6 t7 t8 t9 t10 t11 t12 t13
       have t4 := BT4.at_ 4 (u := .bool i0) rfl; have t5 := BT4.at_ 5 (u := .int .i64 i1) rfl; have t6 := BT4.at_ 6 (u := .bool i2) rfl; have t7 := BT4.at_ 7 (u := .int .u64 i3) rfl; have t8 := BT4.at_ 8 (u := .int .i64 i4) rfl; have t9 := BT4.at_ 9 (u := .int .i64 i5) rfl; have t10 := BT4.at_ 10 (u := .bool i6) rfl; have t11 := BT4.at_ 11 (u := .int .u64 i7) rfl; have t12 := BT4.at_ 12 (u := .int .i64 i8) rfl; have t13 := BT4.at_ 13 (u := .slice A n c) rfl
       clear hb HN0)
    | (go_at_call 71; (refine (wiv_calls w.heap.size (w1.heap.size + 1) _ w4.heap.size 1 1 [⟨i0, ⟨i1, i2, i3, i4⟩, ⟨i5, i6, i7, i8⟩⟩] rfl (by omega) _ _ (HW4.alloc _) (by simp; omega) (by simp only [List.length_append, List.length_singleton]; omega) (Blk.new w4 _ _) (by omega) (ivs1 ⟨i0, ⟨i1, i2, i3, i4⟩, ⟨i5, i6, i7, i8⟩⟩)).mono ?_)
       rintro e w5 ⟨⟨v5, rfl⟩, HW5, HK5, hb⟩
       have HL5 := (bl_alloc HL4 (.cells #[.bool i0, .int .i64 i1, .bool i2, .int .u64 i3, .int .i64 i4, .int .i64 i5, .bool i6, .int .u64 i7, .int .i64 i8] 26)).trans hb
       have BT5 := HK5 _ _ _ (by omega) (by decide) (BT4.alloc _)
       clear t4 t5 t6 t7 t8 t9 t10 t11 t12 t13
       have t13 := BT5.at_ 13 (u := .slice A n c) rfl
       simp only [encIs, List.flatMap_cons, List.flatMap_nil, List.append_nil] at HW5
       clear hb))
  rw [Hn1.out] at HW5
  generalize hpp : w1.heap.size + 1 = p at HW5 hp1 ⊢
  have hpre : ([(n : Int)] ++ n0 ++ n1).length ≤ 41 := by simp only [List.length_append, List.length_singleton]; omega
  replace HR : L0ofs [(n : Int)] n0 n1 ++ encSs xs = R := HR.out
  rw [show [(n : Int)] ++ n0 ++ n1 = L0ofs [(n : Int)] n0 n1 from rfl] at HW5 hpre
  generalize L0ofs [(n : Int)] n0 n1 = L0 at HW5 hpre HR
  replace HR := Lib.hid HR
  clear hpp HL1 HL3 HL4 BT1 BT3 BT4 hg1
  go_loopw [26] (fun i wr => ∃ k : Nat, k ≤ n ∧ i = .int .i64 k ∧ Wr wr w.heap.size p (L0 ++ encSs (xs.take k)) ∧ Below w.heap.size w wr) (fun i _ => n - (intOf i).toNat)
  case atStart => exact ⟨0, Nat.zero_le _, rfl, by simpa [encSs] using HW5, HL5⟩
  case round =>
    obtain ⟨k, hk, rfl, HW, HB⟩ := hrel
    have hbs : w.heap.size ≤ wr.heap.size := HB.size
    by_cases hlt : k < n
    · obtain ⟨b, off, rfl, hbB, hcc⟩ := hs.2 (by omega)
      obtain ⟨x, hx⟩ : ∃ x, xs[k]? = some x := ⟨_, List.getElem?_eq_getElem (show k < xs.length by have := hs.1; omega)⟩
      have hcx := hcc k _ hx
      have hrg : World.rangeAt wr b (off + k * 22) (slcCells x) := fun j u hu => (HB.cell (p := ⟨b, _, none⟩) hbB).trans (hcx j u hu)
      have htk : xs.take (k + 1) = xs.take k ++ [x] := by rw [List.take_add_one, hx]; rfl
      have Hen := encSs_snoc (xs.take k) x
      rw [← htk] at Hen
      replace Hen := Lib.hid Hen
      have hlen := encSs_length (xs.take k)
      have hlk : (xs.take k).length ≤ k := by rw [List.length_take]; omega
      have hxl : (L0 ++ encSs (xs.take k)).length ≤ 10000 := by rw [List.length_append]; omega
      have Happ := Lib.hid (List.append_assoc L0 (encSs (xs.take k)) (encSlc x))
      generalize encSs (xs.take k) = E at HW hxl Hen Happ
      generalize L0 ++ E = L at HW hxl Happ
      have HN := Lib.hid (fun W h1 h2 h3 => wnum_calls w.heap.size p L x.e.k x.e.n x.e.m x.e.e W h1 h2 h3)
      have hnl := encN_length ⟨x.e.k, x.e.n, x.e.m, x.e.e⟩
      have hpl : p < wr.heap.size := by obtain ⟨_, v, h, _⟩ := HW; exact Blk.lt h
      clear hcc hx hcx htk hlen hlk hs
      go_wp2_with (first
        | (refine wpList_loadT rfl (.tmp 28) rfl b (off + k * 22) rfl x hrg ?_)
        | (refine wpList_storeT rfl 88 (.tmp 6) (.tmp 29) rfl wr.heap.size _ (slcCells x).toArray (Blk.new wr _ _) rfl rfl (by kernel_rfl) rfl (slc_one x) ?_
           intro W6 BS6 hk6 hl6
           have hbel := hl6 wr.heap.size wr (Nat.le_refl _) (bl_alloc (Below.refl _ _) _)
           have HL6 := HB.trans (hbel.mono hbs)
           have HW6 := HW.below hbel
           have y0 := BS6.at_ 0 (u := .int .i64 x.e.k) rfl; have y1 := BS6.at_ 1 (u := .bool x.e.n) rfl; have y2 := BS6.at_ 2 (u := .int .u64 x.e.m) rfl; have y3 := BS6.at_ 3 (u := .int .i64 x.e.e) rfl
           have hb6 := HL6.size
           clear hk6 hl6 hbel)
        | (go_at_call 70; (with_reducible refine (HN.out _ HW6 hb6 (by omega)).mono ?_)
           rintro e W7 ⟨⟨v7, rfl⟩, HW7, HK7, hb⟩
           have HL7 := HL6.trans hb
           have BS7 := HK7 _ _ _ (Ne.symm (Nat.ne_of_lt hpl)) (by decide) BS6
           have hb7 := HL7.size
           clear y0 y1 y2 y3 HN
           have hz7 : wr.heap.size < W7.heap.size := Blk.lt BS7
           have y4 := BS7.at_ 4 (u := .bool x.a.emp) rfl; have y5 := BS7.at_ 5 (u := .int .i64 x.a.lo.k) rfl; have y6 := BS7.at_ 6 (u := .bool x.a.lo.n) rfl; have y7 := BS7.at_ 7 (u := .int .u64 x.a.lo.m) rfl; have y8 := BS7.at_ 8 (u := .int .i64 x.a.lo.e) rfl; have y9 := BS7.at_ 9 (u := .int .i64 x.a.hi.k) rfl; have y10 := BS7.at_ 10 (u := .bool x.a.hi.n) rfl; have y11 := BS7.at_ 11 (u := .int .u64 x.a.hi.m) rfl; have y12 := BS7.at_ 12 (u := .int .i64 x.a.hi.e) rfl; have y13 := BS7.at_ 13 (u := .bool x.o.emp) rfl; have y14 := BS7.at_ 14 (u := .int .i64 x.o.lo.k) rfl; have y15 := BS7.at_ 15 (u := .bool x.o.lo.n) rfl; have y16 := BS7.at_ 16 (u := .int .u64 x.o.lo.m) rfl; have y17 := BS7.at_ 17 (u := .int .i64 x.o.lo.e) rfl; have y18 := BS7.at_ 18 (u := .int .i64 x.o.hi.k) rfl; have y19 := BS7.at_ 19 (u := .bool x.o.hi.n) rfl; have y20 := BS7.at_ 20 (u := .int .u64 x.o.hi.m) rfl; have y21 := BS7.at_ 21 (u := .int .i64 x.o.hi.e) rfl)
        | (go_at_call 71; (refine (wiv_calls w.heap.size p _ W7.heap.size 2 2 [x.a, x.o] rfl (by omega) _ _ (HW7.alloc _) (by simp; omega) (by rw [List.length_append]; omega) (Blk.new W7 _ _) (by omega) (ivs2 x.a x.o)).mono ?_)
           rintro e W8 ⟨⟨v8, rfl⟩, HW8, HK8, hb⟩
           have HL8 := (HL7.alloc hb7 (.cells #[.bool x.a.emp, .int .i64 x.a.lo.k, .bool x.a.lo.n, .int .u64 x.a.lo.m, .int .i64 x.a.lo.e, .int .i64 x.a.hi.k, .bool x.a.hi.n, .int .u64 x.a.hi.m, .int .i64 x.a.hi.e, .bool x.o.emp, .int .i64 x.o.lo.k, .bool x.o.lo.n, .int .u64 x.o.lo.m, .int .i64 x.o.lo.e, .int .i64 x.o.hi.k, .bool x.o.hi.n, .int .u64 x.o.hi.m, .int .i64 x.o.hi.e] 26)).trans hb))
      go_roundw
      case rel => exact ⟨k + 1, by omega, by go_num, by rw [Hen.out, ← Happ.out]; simp only [encSlc, encIs, List.flatMap_cons, List.flatMap_nil, List.append_nil, List.append_assoc] at HW8 ⊢; exact HW8, HL8⟩
      case measure => simp [intOf] <;> omega
    · have hkn : n = k := by omega
      subst hkn
      have et : xs.take n = xs := List.take_of_length_le (by have := hs.1; omega)
      rw [et, HR.out] at HW
      obtain ⟨_, v, hB, hO⟩ := HW
      obtain ⟨A', c', rfl, S⟩ := OwnB.sl hO
      have HCap := OwnB.cap hO
      obtain ⟨q0, f0⟩ := hB.c1b
      go_wp2
      go_ret2
      exact ⟨A', c', rfl, S, HCap, HB⟩
end Go.Proofs.Ytakajahogjeiaab.Wk
