/- Walk: box.Hull. -/
import Derived.Test.YtagojbgmgkkdpaaBoxG
namespace Go.Proofs.Ytagojbgmgkkdpaa.Wk
open Go.RowKit Go.Shelf Go.Proofs.Pl Go.Proofs.YtagojbgmgkkdpaaW.PrintLast
set_option linter.unusedSimpArgs false
set_option linter.unusedVariables false
attribute [local go_sem] Oper.semAt_some

set_option maxRecDepth 100000 in
set_option maxHeartbeats 8000000 in
theorem hullB_calls (A : Option Addr) (n c : Nat) (xs : List Iv) (B : Option Addr) (m d : Nat) (ys : List Iv) (w : World) (hs : SlI w w.heap.size A n xs) (ht : SlI w w.heap.size B m ys) (hn : n ≤ 1000) :
    Calls Try.prog 36 #[.slice A n c, .slice B m d] w fun e w' => ∃ v, e = .returned v ∧ OwnI w' w.heap.size v (hullB xs ys) ∧ Below w.heap.size w w' := by
  refine (callsIn_wide (n := 4)).1 ?_
  refine callsIn_of_wp_marks Try.func36 rfl trivial ?_ rfl
  simp only [Try.ntmps36, List.size_toArray, List.length_cons, List.length_nil, Nat.reduceAdd, Nat.reduceSub, Array.replicate_succ, Array.replicate_zero, List.push_toArray, List.append_toArray, List.nil_append, List.cons_append]
  unfold hullB
  rw [hs.1, ht.1]
  by_cases hnm : n = m
  · subst hnm
    rw [if_pos rfl]
    have hq : ((n : Int) != n) = false := by simp
    have HE := Lib.hid (fun W h => emptyB_calls A n c xs W h hn)
    have HE2 := Lib.hid (fun W h => emptyB_calls B n d ys W h hn)
    cases hp : emptyB xs
    · rw [hp] at HE
      rw [if_neg (by simp)]
      cases hp2 : emptyB ys
      · rw [hp2] at HE2
        rw [if_neg (by simp)]
        gi_wp2_with (refine ⟨trivial, ?_⟩; first
          | (gi_at_call 40; first
            | (refine (callsIn_wide.2 (HE.out w hs)).mono ?_; rintro e w1 ⟨rfl, hb1⟩)
            | (refine (callsIn_wide.2 (HE2.out w1 (ht.on hb1))).mono ?_; rintro e w2 ⟨rfl, hb2⟩))
          | (gi_at_call 79; refine (callsIn_wide.2 (pairs_calls A n c B n d _)).mono ?_; rintro e w' ⟨rfl, rfl⟩))
        have hb12 := bl_trans hb1 hb2
        have BL := ((Blk.new w2 41 #[.slice none 0 0]).alloc (.cells #[.slice A n c] 41)).alloc (.cells #[.slice B n d] 41)
        have BX := (Blk.new1 w2 (.cells #[.slice none 0 0] 41) 41 #[.slice A n c]).alloc (.cells #[.slice B n d] 41)
        have BY := Blk.new2 w2 (.cells #[.slice none 0 0] 41) (.cells #[.slice A n c] 41) 41 #[.slice B n d]
        have HB2 := bl_alloc (bl_alloc (bl_alloc (Below.refl w2.heap.size w2) (.cells #[.slice none 0 0] 41)) (.cells #[.slice A n c] 41)) (.cells #[.slice B n d] 41)
        obtain ⟨W0, hW0⟩ : ∃ W0, ((w2.alloc (.cells #[.slice none 0 0] 41)).alloc (.cells #[.slice A n c] 41)).alloc (.cells #[.slice B n d] 41) = W0 := ⟨_, rfl⟩
        have hsz : W0.heap.size = w2.heap.size + 3 := by rw [← hW0]; simp
        rw [hW0] at BL BX BY HB2 ⊢
        have hs2 := (hs.on hb12).below HB2
        have ht2 := (ht.on hb12).below HB2
        have hlen : xs.length = ys.length := by rw [hs.1, ht.1]
        have hxl := hs.1
        clear hW0 hs ht
        obtain ⟨N, hN⟩ : ∃ N, N = w2.heap.size + 1 := ⟨_, rfl⟩
        have BY' : Blk W0 (N + 1) 41 #[.slice B n d] := by rw [hN]; exact BY
        have BX' : Blk W0 N 41 #[.slice A n c] := by rw [hN]; exact BX
        rw [← hN]
        have hN1 : N + 1 < W0.heap.size := by omega
        have hN2 : w2.heap.size < N := by omega
        clear BX BY hN hsz
        refine wpIn_rangeFunc_ownH rfl (by omega) (gf := 113) (lb := #[.pointer (some ⟨N, 0, none⟩), .pointer (some ⟨N + 1, 0, none⟩)]) rfl trivial (enters_of Try.func113 (by kernel_rfl) rfl)
          (pairs_stops 3 (by omega) N (N + 1) w2.heap.size n c d A B xs ys hn W0 BX' BY' (by omega) hs2 ht2) KpP.trans
          (fun W l o o' hl h1 h2 h3 => ⟨belowK_b (w := W0) (by omega) W l o o' hl h1 h2 h3, World.putObj_heap_other (by omega), World.putObj_heap_other (by omega)⟩) (Below.refl _ _) (fun _ => rfl)
          (fun pre W => (∃ v, Blk W w2.heap.size 41 #[v] ∧ OwnI W w2.heap.size v (pre.map fun x => hull2 x.1 x.2) ∧ (∀ k, v.ownBlock = some k → N + 1 < k) ∧ Blk W N 41 #[.slice A n c] ∧ Blk W (N + 1) 41 #[.slice B n d]) ∧ Below w2.heap.size w2 W)
          (fun c pre W => False ∧ Below w2.heap.size w2 W)
          ?hI ?hIx ?h0
          (fun x a' W => ∃ P Q, N + 1 < P ∧ N + 1 < Q ∧ P ≠ Q ∧ (Blk W P 26 (ivCells x.1).toArray ∧ Blk W Q 26 (ivCells x.2).toArray) ∧ a' = { tmps := #[.slice A n c, .slice B n d, undef, undef, .slice none 0 0, .pointer (some ⟨w2.heap.size, 0, none⟩), .pointer (some ⟨P, 0, none⟩), .pointer (some ⟨Q, 0, none⟩), .bool false, .slice A n c, .int .i64 n, .slice B n d, .int .i64 n, .bool false, .bool false, .slice A n c, .bool false, undef, undef, .bool false, .slice B n d, .bool false, undef, undef, .slice A n c, .slice B n d, .func (.func 113) #[] #[.pointer (some ⟨N, 0, none⟩), .pointer (some ⟨N + 1, 0, none⟩)], .agg (ivCells x.1).toArray, .agg (ivCells x.2).toArray, undef, undef, undef, undef, undef, undef, undef, undef], defers := [] })
          ?hAx ?assign ?body ?done ?stop
        case hI =>
          refine OwnFrom.and ?_ (ownFrom_below (Nat.le_refl _) (by omega))
          rintro s X Y row ⟨v, h1, h2, h3, h4, h5⟩ hg hr
          exact ⟨v, blk_own _ _ (fun _ : Unit => #[v]) () X Y row h1 hg (fun r e => (hr r e).2), ownI_own _ _ _ h2 hg (fun r e => (hr r e).2), h3, blk_own _ _ (fun _ : Unit => #[.slice A n c]) () X Y row h4 hg (fun r e => (hr r e).2), blk_own _ _ (fun _ : Unit => #[.slice B n d]) () X Y row h5 hg (fun r e => (hr r e).2)⟩
        case hIx =>
          intro c
          exact OwnFrom.and (ownFrom_pure _ _) (ownFrom_below (Nat.le_refl _) (by omega))
        case h0 => exact ⟨⟨_, BL, OwnI.nil _ _, (fun k hk => by cases hk), BX', BY'⟩, HB2⟩
        case hAx =>
          intro x a'
          rintro s X Y row ⟨P, Q, h1, h2, h3, h4, h5⟩ hg hr
          exact ⟨P, Q, h1, h2, h3, ⟨blk_own _ _ (fun _ : Unit => (ivCells x.1).toArray) s X Y row h4.1 hg (fun r e => (hr r e).2), blk_own _ _ (fun _ : Unit => (ivCells x.2).toArray) s X Y row h4.2 hg (fun r e => (hr r e).2)⟩, h5⟩
        case assign =>
          rintro l pre ⟨x, y⟩ W K ⟨⟨v, i1, i2, i3, i4, i5⟩, hB⟩ hK
          dsimp only at hK
          have hb2 : Below W.heap.size W ((W.alloc (.cells (ivCells x).toArray 26)).alloc (.cells (ivCells y).toArray 26)) := bl_alloc (bl_alloc (Below.refl _ _) _) _
          have hNW := i5.lt
          have hK2 := hK _ _ (keepsFrom_below hb2 _) ⟨hb2.mono hB.size, hb2.block _ (by omega), hb2.block _ hNW⟩ ⟨⟨v, i1.call hb2, i2.call hb2, i3, i4.call hb2, i5.call hb2⟩, bl_trans hB hb2⟩
            ⟨W.heap.size, W.heap.size + 1, by omega, by omega, by omega, ⟨(Blk.new W _ _).alloc _, Blk.new1 W _ _ _⟩, rfl⟩
          clear hK i1 i2 i3 i4 i5 hB hb2
          dsimp only [encP, ivCells] at hK2 ⊢
          gi_wp2
          exact hK2
        case body =>
          rintro l pre ⟨x, y⟩ a' W hl ⟨r, hr⟩ ⟨⟨v, i1, i2, i3, i4, i5⟩, hB⟩ ⟨P, Q, hP, hQ, hPQ, ⟨bP, bQ⟩, rfl⟩ hlenp
          obtain ⟨x0, ⟨x1, x2, x3, x4⟩, ⟨x5, x6, x7, x8⟩⟩ := x
          obtain ⟨y0, ⟨y1, y2, y3, y4⟩, ⟨y5, y6, y7, y8⟩⟩ := y
          have HM := Lib.hid (fun A W (h : SlI W W.heap.size A 2 [⟨x0, ⟨x1, x2, x3, x4⟩, ⟨x5, x6, x7, x8⟩⟩, ⟨y0, ⟨y1, y2, y3, y4⟩, ⟨y5, y6, y7, y8⟩⟩]) => hullI_calls A 2 2 _ W h (by omega))
          have Hsn := Lib.hid (show (pre ++ [((⟨x0, ⟨x1, x2, x3, x4⟩, ⟨x5, x6, x7, x8⟩⟩ : Iv), (⟨y0, ⟨y1, y2, y3, y4⟩, ⟨y5, y6, y7, y8⟩⟩ : Iv))]).map (fun z : Iv × Iv => hull2 z.1 z.2) = pre.map (fun z : Iv × Iv => hull2 z.1 z.2) ++ [hullI [⟨x0, ⟨x1, x2, x3, x4⟩, ⟨x5, x6, x7, x8⟩⟩, ⟨y0, ⟨y1, y2, y3, y4⟩, ⟨y5, y6, y7, y8⟩⟩]] by simp [hull2])
          generalize hullI [⟨x0, ⟨x1, x2, x3, x4⟩, ⟨x5, x6, x7, x8⟩⟩, ⟨y0, ⟨y1, y2, y3, y4⟩, ⟨y5, y6, y7, y8⟩⟩] = r at HM Hsn
          have hpl : (pre.map fun z : Iv × Iv => hull2 z.1 z.2).length < n := by rw [List.length_map]; exact hlenp
          generalize hL : (pre.map fun z : Iv × Iv => hull2 z.1 z.2) = L at i2 hpl Hsn
          clear hL
          obtain ⟨r0, ⟨r1, r2, r3, r4⟩, ⟨r5, r6, r7, r8⟩⟩ := r
          dsimp only [ivCells] at bP bQ HM ⊢
          have z1 := i1.drew
          have zP := bP.drew
          have zQ := bQ.drew
          obtain ⟨p0, pf0⟩ := z1.c1
          obtain ⟨p0', pf0'⟩ := i1.c1
          obtain ⟨⟨q0, q1, q2, q3, q4, q5, q6, q7, q8⟩, _⟩ := zP.c9
          obtain ⟨⟨t0, t1, t2, t3, t4, t5, t6, t7, t8⟩, _⟩ := zQ.c9
          have hPW := bP.lt
          have hQW := bQ.lt
          have hLW := i1.lt
          have I2 := Lib.hid i2
          have I3 := Lib.hid i3
          clear i2 i3
          gi_wp2_with fail
          have I1 := Lib.hid i1
          clear i1
          refine wpIn_region_any (by kernel_rfl) ?_
          change wpAnyIn _ _ _ _ _ _ _ _ _ (World.drew _)
          refine wpAnyIn_ready (rs := [0, 1, 2]) (by kernel_rfl) (by simp) ?_
          refine AllReadyIn.cons rfl (fun K hK => ?_) ?_
          · skip
            go_simp
            refine hK _ _ ?_
            clear hK K
            refine wpAnyIn_ready (rs := [1, 2]) (by kernel_rfl) (by simp) ?_
            refine AllReadyIn.cons rfl (fun K hK => ?_) ?_
            · skip
              go_simp
              refine hK _ _ ?_
              clear hK K
              refine wpAnyIn_ready (rs := [2]) (by kernel_rfl) (by simp) ?_
              refine AllReadyIn.cons rfl (fun K hK => ?_) ?_
              · skip
                go_simp
                refine hK _ _ ?_
                clear hK K
                refine wpAnyIn_ready (rs := [3]) (by kernel_rfl) (by simp) ?_
                refine AllReadyIn.cons rfl (fun K hK => ?_) ?_
                · skip
                  go_simp
                  refine hK _ _ ?_
                  clear hK K
                  refine wpAnyIn_ready (rs := [4]) (by kernel_rfl) (by simp) ?_
                  refine AllReadyIn.cons rfl (fun K hK => ?_) ?_
                  · skip
                    go_simp
                    refine ⟨trivial, ?_⟩
                    refine (CallsIn.inRound l (callsIn_wide.2 (HM.out _ _ (SlI.lit2 (x := ⟨x0, ⟨x1, x2, x3, x4⟩, ⟨x5, x6, x7, x8⟩⟩) (y := ⟨y0, ⟨y1, y2, y3, y4⟩, ⟨y5, y6, y7, y8⟩⟩) (Blk.new W _ _).drew (by simp))))).mono ?_
                    rintro e w9 ⟨rfl, hb⟩
                    refine hK _ _ ?_
                    clear hK K
                    have j1 := ((I1.out.alloc (.cells #[.bool x0, .int .i64 x1, .bool x2, .int .u64 x3, .int .i64 x4, .int .i64 x5, .bool x6, .int .u64 x7, .int .i64 x8, .bool y0, .int .i64 y1, .bool y2, .int .u64 y3, .int .i64 y4, .int .i64 y5, .bool y6, .int .u64 y7, .int .i64 y8] 26)).drew).call hb
                    obtain ⟨g0, gf0⟩ := j1.c1
                    have J1 := Lib.hid j1
                    have J2 := Lib.hid (((I2.out.alloc (.cells #[.bool x0, .int .i64 x1, .bool x2, .int .u64 x3, .int .i64 x4, .int .i64 x5, .bool x6, .int .u64 x7, .int .i64 x8, .bool y0, .int .i64 y1, .bool y2, .int .u64 y3, .int .i64 y4, .int .i64 y5, .bool y6, .int .u64 y7, .int .i64 y8] 26)).drew).call hb)
                    have hLw := j1.lt
                    have Hb := Lib.hid hb
                    clear hb j1
                    refine wpAnyIn_ready (rs := [5]) (by kernel_rfl) (by simp) ?_
                    refine AllReadyIn.cons rfl (fun K hK => ?_) ?_
                    · skip
                      go_simp
                      refine hK _ _ ?_
                      clear hK K
                      refine wpAnyIn_ready (rs := [6]) (by kernel_rfl) (by simp) ?_
                      refine AllReadyIn.cons rfl (fun K hK => ?_) ?_
                      · skip
                        refine stepIn_appI (by rfl) (.tmp 29) (.tmp 34) (by rfl) w2.heap.size v L (by rfl) (J2.out.alloc (.cells #[.bool r0, .int .i64 r1, .bool r2, .int .u64 r3, .int .i64 r4, .int .i64 r5, .bool r6, .int .u64 r7, .int .i64 r8] 26)) (w9.heap.size + 1) ⟨w9.heap.size, 0, none⟩ 1 1 [⟨r0, ⟨r1, r2, r3, r4⟩, ⟨r5, r6, r7, r8⟩⟩] (by rfl) (SlI.lit1 (Blk.new w9 _ _) (by omega)) (by omega) (by simp; omega) ?_
                        intro v3 w3 O3 hg3 hat3
                        obtain ⟨A3, n3, c3, rfl⟩ := O3.form
                        refine hK _ _ ?_
                        clear hK K
                        have k1 := (J1.out.alloc (.cells #[.bool r0, .int .i64 r1, .bool r2, .int .u64 r3, .int .i64 r4, .int .i64 r5, .bool r6, .int .u64 r7, .int .i64 r8] 26)).grown hg3 (fun e => by have := I3.out _ e.symm; omega)
                        obtain ⟨h0, hf0⟩ := k1.c1
                        have K1 := Lib.hid k1
                        have O3' := Lib.hid O3
                        have Hg3 := Lib.hid hg3
                        have Hat := Lib.hid hat3
                        clear O3 hg3 hat3 k1
                        refine wpAnyIn_ready (rs := [7]) (by kernel_rfl) (by simp) ?_
                        refine AllReadyIn.cons rfl (fun K hK => ?_) ?_
                        · skip
                          go_simp
                          refine hK _ _ ?_
                          clear hK K
                          refine wpAnyIn_done (by kernel_rfl) ?_ _
                          have FIN := app_round (B' := W0.heap.size) hN2 hB I1.out I2.out I3.out i4 i5 Hb.out O3'.out Hg3.out Hat.out
                          rw [← Hsn.out] at FIN
                          gi_wp2
                          exact FIN
                        exact AllReadyIn.nil
                      exact AllReadyIn.nil
                    exact AllReadyIn.nil
                  exact AllReadyIn.nil
                exact AllReadyIn.nil
              exact AllReadyIn.nil
            refine AllReadyIn.cons rfl (fun K hK => ?_) ?_
            · skip
              go_simp
              refine hK _ _ ?_
              clear hK K
              refine wpAnyIn_ready (rs := [1]) (by kernel_rfl) (by simp) ?_
              refine AllReadyIn.cons rfl (fun K hK => ?_) ?_
              · skip
                go_simp
                refine hK _ _ ?_
                clear hK K
                refine wpAnyIn_ready (rs := [3]) (by kernel_rfl) (by simp) ?_
                refine AllReadyIn.cons rfl (fun K hK => ?_) ?_
                · skip
                  go_simp
                  refine hK _ _ ?_
                  clear hK K
                  refine wpAnyIn_ready (rs := [4]) (by kernel_rfl) (by simp) ?_
                  refine AllReadyIn.cons rfl (fun K hK => ?_) ?_
                  · skip
                    go_simp
                    refine ⟨trivial, ?_⟩
                    refine (CallsIn.inRound l (callsIn_wide.2 (HM.out _ _ (SlI.lit2 (x := ⟨x0, ⟨x1, x2, x3, x4⟩, ⟨x5, x6, x7, x8⟩⟩) (y := ⟨y0, ⟨y1, y2, y3, y4⟩, ⟨y5, y6, y7, y8⟩⟩) (Blk.new W _ _).drew (by simp))))).mono ?_
                    rintro e w9 ⟨rfl, hb⟩
                    refine hK _ _ ?_
                    clear hK K
                    have j1 := ((I1.out.alloc (.cells #[.bool x0, .int .i64 x1, .bool x2, .int .u64 x3, .int .i64 x4, .int .i64 x5, .bool x6, .int .u64 x7, .int .i64 x8, .bool y0, .int .i64 y1, .bool y2, .int .u64 y3, .int .i64 y4, .int .i64 y5, .bool y6, .int .u64 y7, .int .i64 y8] 26)).drew).call hb
                    obtain ⟨g0, gf0⟩ := j1.c1
                    have J1 := Lib.hid j1
                    have J2 := Lib.hid (((I2.out.alloc (.cells #[.bool x0, .int .i64 x1, .bool x2, .int .u64 x3, .int .i64 x4, .int .i64 x5, .bool x6, .int .u64 x7, .int .i64 x8, .bool y0, .int .i64 y1, .bool y2, .int .u64 y3, .int .i64 y4, .int .i64 y5, .bool y6, .int .u64 y7, .int .i64 y8] 26)).drew).call hb)
                    have hLw := j1.lt
                    have Hb := Lib.hid hb
                    clear hb j1
                    refine wpAnyIn_ready (rs := [5]) (by kernel_rfl) (by simp) ?_
                    refine AllReadyIn.cons rfl (fun K hK => ?_) ?_
                    · skip
                      go_simp
                      refine hK _ _ ?_
                      clear hK K
                      refine wpAnyIn_ready (rs := [6]) (by kernel_rfl) (by simp) ?_
                      refine AllReadyIn.cons rfl (fun K hK => ?_) ?_
                      · skip
                        refine stepIn_appI (by rfl) (.tmp 29) (.tmp 34) (by rfl) w2.heap.size v L (by rfl) (J2.out.alloc (.cells #[.bool r0, .int .i64 r1, .bool r2, .int .u64 r3, .int .i64 r4, .int .i64 r5, .bool r6, .int .u64 r7, .int .i64 r8] 26)) (w9.heap.size + 1) ⟨w9.heap.size, 0, none⟩ 1 1 [⟨r0, ⟨r1, r2, r3, r4⟩, ⟨r5, r6, r7, r8⟩⟩] (by rfl) (SlI.lit1 (Blk.new w9 _ _) (by omega)) (by omega) (by simp; omega) ?_
                        intro v3 w3 O3 hg3 hat3
                        obtain ⟨A3, n3, c3, rfl⟩ := O3.form
                        refine hK _ _ ?_
                        clear hK K
                        have k1 := (J1.out.alloc (.cells #[.bool r0, .int .i64 r1, .bool r2, .int .u64 r3, .int .i64 r4, .int .i64 r5, .bool r6, .int .u64 r7, .int .i64 r8] 26)).grown hg3 (fun e => by have := I3.out _ e.symm; omega)
                        obtain ⟨h0, hf0⟩ := k1.c1
                        have K1 := Lib.hid k1
                        have O3' := Lib.hid O3
                        have Hg3 := Lib.hid hg3
                        have Hat := Lib.hid hat3
                        clear O3 hg3 hat3 k1
                        refine wpAnyIn_ready (rs := [7]) (by kernel_rfl) (by simp) ?_
                        refine AllReadyIn.cons rfl (fun K hK => ?_) ?_
                        · skip
                          go_simp
                          refine hK _ _ ?_
                          clear hK K
                          refine wpAnyIn_done (by kernel_rfl) ?_ _
                          have FIN := app_round (B' := W0.heap.size) hN2 hB I1.out I2.out I3.out i4 i5 Hb.out O3'.out Hg3.out Hat.out
                          rw [← Hsn.out] at FIN
                          gi_wp2
                          exact FIN
                        exact AllReadyIn.nil
                      exact AllReadyIn.nil
                    exact AllReadyIn.nil
                  exact AllReadyIn.nil
                exact AllReadyIn.nil
              exact AllReadyIn.nil
            exact AllReadyIn.nil
          refine AllReadyIn.cons rfl (fun K hK => ?_) ?_
          · skip
            go_simp
            refine hK _ _ ?_
            clear hK K
            refine wpAnyIn_ready (rs := [0, 2]) (by kernel_rfl) (by simp) ?_
            refine AllReadyIn.cons rfl (fun K hK => ?_) ?_
            · skip
              go_simp
              refine hK _ _ ?_
              clear hK K
              refine wpAnyIn_ready (rs := [2]) (by kernel_rfl) (by simp) ?_
              refine AllReadyIn.cons rfl (fun K hK => ?_) ?_
              · skip
                go_simp
                refine hK _ _ ?_
                clear hK K
                refine wpAnyIn_ready (rs := [3]) (by kernel_rfl) (by simp) ?_
                refine AllReadyIn.cons rfl (fun K hK => ?_) ?_
                · skip
                  go_simp
                  refine hK _ _ ?_
                  clear hK K
                  refine wpAnyIn_ready (rs := [4]) (by kernel_rfl) (by simp) ?_
                  refine AllReadyIn.cons rfl (fun K hK => ?_) ?_
                  · skip
                    go_simp
                    refine ⟨trivial, ?_⟩
                    refine (CallsIn.inRound l (callsIn_wide.2 (HM.out _ _ (SlI.lit2 (x := ⟨x0, ⟨x1, x2, x3, x4⟩, ⟨x5, x6, x7, x8⟩⟩) (y := ⟨y0, ⟨y1, y2, y3, y4⟩, ⟨y5, y6, y7, y8⟩⟩) (Blk.new W _ _).drew (by simp))))).mono ?_
                    rintro e w9 ⟨rfl, hb⟩
                    refine hK _ _ ?_
                    clear hK K
                    have j1 := ((I1.out.alloc (.cells #[.bool x0, .int .i64 x1, .bool x2, .int .u64 x3, .int .i64 x4, .int .i64 x5, .bool x6, .int .u64 x7, .int .i64 x8, .bool y0, .int .i64 y1, .bool y2, .int .u64 y3, .int .i64 y4, .int .i64 y5, .bool y6, .int .u64 y7, .int .i64 y8] 26)).drew).call hb
                    obtain ⟨g0, gf0⟩ := j1.c1
                    have J1 := Lib.hid j1
                    have J2 := Lib.hid (((I2.out.alloc (.cells #[.bool x0, .int .i64 x1, .bool x2, .int .u64 x3, .int .i64 x4, .int .i64 x5, .bool x6, .int .u64 x7, .int .i64 x8, .bool y0, .int .i64 y1, .bool y2, .int .u64 y3, .int .i64 y4, .int .i64 y5, .bool y6, .int .u64 y7, .int .i64 y8] 26)).drew).call hb)
                    have hLw := j1.lt
                    have Hb := Lib.hid hb
                    clear hb j1
                    refine wpAnyIn_ready (rs := [5]) (by kernel_rfl) (by simp) ?_
                    refine AllReadyIn.cons rfl (fun K hK => ?_) ?_
                    · skip
                      go_simp
                      refine hK _ _ ?_
                      clear hK K
                      refine wpAnyIn_ready (rs := [6]) (by kernel_rfl) (by simp) ?_
                      refine AllReadyIn.cons rfl (fun K hK => ?_) ?_
                      · skip
                        refine stepIn_appI (by rfl) (.tmp 29) (.tmp 34) (by rfl) w2.heap.size v L (by rfl) (J2.out.alloc (.cells #[.bool r0, .int .i64 r1, .bool r2, .int .u64 r3, .int .i64 r4, .int .i64 r5, .bool r6, .int .u64 r7, .int .i64 r8] 26)) (w9.heap.size + 1) ⟨w9.heap.size, 0, none⟩ 1 1 [⟨r0, ⟨r1, r2, r3, r4⟩, ⟨r5, r6, r7, r8⟩⟩] (by rfl) (SlI.lit1 (Blk.new w9 _ _) (by omega)) (by omega) (by simp; omega) ?_
                        intro v3 w3 O3 hg3 hat3
                        obtain ⟨A3, n3, c3, rfl⟩ := O3.form
                        refine hK _ _ ?_
                        clear hK K
                        have k1 := (J1.out.alloc (.cells #[.bool r0, .int .i64 r1, .bool r2, .int .u64 r3, .int .i64 r4, .int .i64 r5, .bool r6, .int .u64 r7, .int .i64 r8] 26)).grown hg3 (fun e => by have := I3.out _ e.symm; omega)
                        obtain ⟨h0, hf0⟩ := k1.c1
                        have K1 := Lib.hid k1
                        have O3' := Lib.hid O3
                        have Hg3 := Lib.hid hg3
                        have Hat := Lib.hid hat3
                        clear O3 hg3 hat3 k1
                        refine wpAnyIn_ready (rs := [7]) (by kernel_rfl) (by simp) ?_
                        refine AllReadyIn.cons rfl (fun K hK => ?_) ?_
                        · skip
                          go_simp
                          refine hK _ _ ?_
                          clear hK K
                          refine wpAnyIn_done (by kernel_rfl) ?_ _
                          have FIN := app_round (B' := W0.heap.size) hN2 hB I1.out I2.out I3.out i4 i5 Hb.out O3'.out Hg3.out Hat.out
                          rw [← Hsn.out] at FIN
                          gi_wp2
                          exact FIN
                        exact AllReadyIn.nil
                      exact AllReadyIn.nil
                    exact AllReadyIn.nil
                  exact AllReadyIn.nil
                exact AllReadyIn.nil
              exact AllReadyIn.nil
            refine AllReadyIn.cons rfl (fun K hK => ?_) ?_
            · skip
              go_simp
              refine hK _ _ ?_
              clear hK K
              refine wpAnyIn_ready (rs := [0, 3]) (by kernel_rfl) (by simp) ?_
              refine AllReadyIn.cons rfl (fun K hK => ?_) ?_
              · skip
                go_simp
                refine hK _ _ ?_
                clear hK K
                refine wpAnyIn_ready (rs := [3]) (by kernel_rfl) (by simp) ?_
                refine AllReadyIn.cons rfl (fun K hK => ?_) ?_
                · skip
                  go_simp
                  refine hK _ _ ?_
                  clear hK K
                  refine wpAnyIn_ready (rs := [4]) (by kernel_rfl) (by simp) ?_
                  refine AllReadyIn.cons rfl (fun K hK => ?_) ?_
                  · skip
                    go_simp
                    refine ⟨trivial, ?_⟩
                    refine (CallsIn.inRound l (callsIn_wide.2 (HM.out _ _ (SlI.lit2 (x := ⟨x0, ⟨x1, x2, x3, x4⟩, ⟨x5, x6, x7, x8⟩⟩) (y := ⟨y0, ⟨y1, y2, y3, y4⟩, ⟨y5, y6, y7, y8⟩⟩) (Blk.new W _ _).drew (by simp))))).mono ?_
                    rintro e w9 ⟨rfl, hb⟩
                    refine hK _ _ ?_
                    clear hK K
                    have j1 := ((I1.out.alloc (.cells #[.bool x0, .int .i64 x1, .bool x2, .int .u64 x3, .int .i64 x4, .int .i64 x5, .bool x6, .int .u64 x7, .int .i64 x8, .bool y0, .int .i64 y1, .bool y2, .int .u64 y3, .int .i64 y4, .int .i64 y5, .bool y6, .int .u64 y7, .int .i64 y8] 26)).drew).call hb
                    obtain ⟨g0, gf0⟩ := j1.c1
                    have J1 := Lib.hid j1
                    have J2 := Lib.hid (((I2.out.alloc (.cells #[.bool x0, .int .i64 x1, .bool x2, .int .u64 x3, .int .i64 x4, .int .i64 x5, .bool x6, .int .u64 x7, .int .i64 x8, .bool y0, .int .i64 y1, .bool y2, .int .u64 y3, .int .i64 y4, .int .i64 y5, .bool y6, .int .u64 y7, .int .i64 y8] 26)).drew).call hb)
                    have hLw := j1.lt
                    have Hb := Lib.hid hb
                    clear hb j1
                    refine wpAnyIn_ready (rs := [5]) (by kernel_rfl) (by simp) ?_
                    refine AllReadyIn.cons rfl (fun K hK => ?_) ?_
                    · skip
                      go_simp
                      refine hK _ _ ?_
                      clear hK K
                      refine wpAnyIn_ready (rs := [6]) (by kernel_rfl) (by simp) ?_
                      refine AllReadyIn.cons rfl (fun K hK => ?_) ?_
                      · skip
                        refine stepIn_appI (by rfl) (.tmp 29) (.tmp 34) (by rfl) w2.heap.size v L (by rfl) (J2.out.alloc (.cells #[.bool r0, .int .i64 r1, .bool r2, .int .u64 r3, .int .i64 r4, .int .i64 r5, .bool r6, .int .u64 r7, .int .i64 r8] 26)) (w9.heap.size + 1) ⟨w9.heap.size, 0, none⟩ 1 1 [⟨r0, ⟨r1, r2, r3, r4⟩, ⟨r5, r6, r7, r8⟩⟩] (by rfl) (SlI.lit1 (Blk.new w9 _ _) (by omega)) (by omega) (by simp; omega) ?_
                        intro v3 w3 O3 hg3 hat3
                        obtain ⟨A3, n3, c3, rfl⟩ := O3.form
                        refine hK _ _ ?_
                        clear hK K
                        have k1 := (J1.out.alloc (.cells #[.bool r0, .int .i64 r1, .bool r2, .int .u64 r3, .int .i64 r4, .int .i64 r5, .bool r6, .int .u64 r7, .int .i64 r8] 26)).grown hg3 (fun e => by have := I3.out _ e.symm; omega)
                        obtain ⟨h0, hf0⟩ := k1.c1
                        have K1 := Lib.hid k1
                        have O3' := Lib.hid O3
                        have Hg3 := Lib.hid hg3
                        have Hat := Lib.hid hat3
                        clear O3 hg3 hat3 k1
                        refine wpAnyIn_ready (rs := [7]) (by kernel_rfl) (by simp) ?_
                        refine AllReadyIn.cons rfl (fun K hK => ?_) ?_
                        · skip
                          go_simp
                          refine hK _ _ ?_
                          clear hK K
                          refine wpAnyIn_done (by kernel_rfl) ?_ _
                          have FIN := app_round (B' := W0.heap.size) hN2 hB I1.out I2.out I3.out i4 i5 Hb.out O3'.out Hg3.out Hat.out
                          rw [← Hsn.out] at FIN
                          gi_wp2
                          exact FIN
                        exact AllReadyIn.nil
                      exact AllReadyIn.nil
                    exact AllReadyIn.nil
                  exact AllReadyIn.nil
                exact AllReadyIn.nil
              refine AllReadyIn.cons rfl (fun K hK => ?_) ?_
              · skip
                go_simp
                refine hK _ _ ?_
                clear hK K
                refine wpAnyIn_ready (rs := [0, 4]) (by kernel_rfl) (by simp) ?_
                refine AllReadyIn.cons rfl (fun K hK => ?_) ?_
                · skip
                  go_simp
                  refine hK _ _ ?_
                  clear hK K
                  refine wpAnyIn_ready (rs := [4]) (by kernel_rfl) (by simp) ?_
                  refine AllReadyIn.cons rfl (fun K hK => ?_) ?_
                  · skip
                    go_simp
                    refine ⟨trivial, ?_⟩
                    refine (CallsIn.inRound l (callsIn_wide.2 (HM.out _ _ (SlI.lit2 (x := ⟨x0, ⟨x1, x2, x3, x4⟩, ⟨x5, x6, x7, x8⟩⟩) (y := ⟨y0, ⟨y1, y2, y3, y4⟩, ⟨y5, y6, y7, y8⟩⟩) (Blk.new W _ _).drew (by simp))))).mono ?_
                    rintro e w9 ⟨rfl, hb⟩
                    refine hK _ _ ?_
                    clear hK K
                    have j1 := ((I1.out.alloc (.cells #[.bool x0, .int .i64 x1, .bool x2, .int .u64 x3, .int .i64 x4, .int .i64 x5, .bool x6, .int .u64 x7, .int .i64 x8, .bool y0, .int .i64 y1, .bool y2, .int .u64 y3, .int .i64 y4, .int .i64 y5, .bool y6, .int .u64 y7, .int .i64 y8] 26)).drew).call hb
                    obtain ⟨g0, gf0⟩ := j1.c1
                    have J1 := Lib.hid j1
                    have J2 := Lib.hid (((I2.out.alloc (.cells #[.bool x0, .int .i64 x1, .bool x2, .int .u64 x3, .int .i64 x4, .int .i64 x5, .bool x6, .int .u64 x7, .int .i64 x8, .bool y0, .int .i64 y1, .bool y2, .int .u64 y3, .int .i64 y4, .int .i64 y5, .bool y6, .int .u64 y7, .int .i64 y8] 26)).drew).call hb)
                    have hLw := j1.lt
                    have Hb := Lib.hid hb
                    clear hb j1
                    refine wpAnyIn_ready (rs := [5]) (by kernel_rfl) (by simp) ?_
                    refine AllReadyIn.cons rfl (fun K hK => ?_) ?_
                    · skip
                      go_simp
                      refine hK _ _ ?_
                      clear hK K
                      refine wpAnyIn_ready (rs := [6]) (by kernel_rfl) (by simp) ?_
                      refine AllReadyIn.cons rfl (fun K hK => ?_) ?_
                      · skip
                        refine stepIn_appI (by rfl) (.tmp 29) (.tmp 34) (by rfl) w2.heap.size v L (by rfl) (J2.out.alloc (.cells #[.bool r0, .int .i64 r1, .bool r2, .int .u64 r3, .int .i64 r4, .int .i64 r5, .bool r6, .int .u64 r7, .int .i64 r8] 26)) (w9.heap.size + 1) ⟨w9.heap.size, 0, none⟩ 1 1 [⟨r0, ⟨r1, r2, r3, r4⟩, ⟨r5, r6, r7, r8⟩⟩] (by rfl) (SlI.lit1 (Blk.new w9 _ _) (by omega)) (by omega) (by simp; omega) ?_
                        intro v3 w3 O3 hg3 hat3
                        obtain ⟨A3, n3, c3, rfl⟩ := O3.form
                        refine hK _ _ ?_
                        clear hK K
                        have k1 := (J1.out.alloc (.cells #[.bool r0, .int .i64 r1, .bool r2, .int .u64 r3, .int .i64 r4, .int .i64 r5, .bool r6, .int .u64 r7, .int .i64 r8] 26)).grown hg3 (fun e => by have := I3.out _ e.symm; omega)
                        obtain ⟨h0, hf0⟩ := k1.c1
                        have K1 := Lib.hid k1
                        have O3' := Lib.hid O3
                        have Hg3 := Lib.hid hg3
                        have Hat := Lib.hid hat3
                        clear O3 hg3 hat3 k1
                        refine wpAnyIn_ready (rs := [7]) (by kernel_rfl) (by simp) ?_
                        refine AllReadyIn.cons rfl (fun K hK => ?_) ?_
                        · skip
                          go_simp
                          refine hK _ _ ?_
                          clear hK K
                          refine wpAnyIn_done (by kernel_rfl) ?_ _
                          have FIN := app_round (B' := W0.heap.size) hN2 hB I1.out I2.out I3.out i4 i5 Hb.out O3'.out Hg3.out Hat.out
                          rw [← Hsn.out] at FIN
                          gi_wp2
                          exact FIN
                        exact AllReadyIn.nil
                      exact AllReadyIn.nil
                    exact AllReadyIn.nil
                  exact AllReadyIn.nil
                refine AllReadyIn.cons rfl (fun K hK => ?_) ?_
                · skip
                  go_simp
                  refine ⟨trivial, ?_⟩
                  refine (CallsIn.inRound l (callsIn_wide.2 (HM.out _ _ (SlI.lit2 (x := ⟨x0, ⟨x1, x2, x3, x4⟩, ⟨x5, x6, x7, x8⟩⟩) (y := ⟨y0, ⟨y1, y2, y3, y4⟩, ⟨y5, y6, y7, y8⟩⟩) (Blk.new W _ _).drew (by simp))))).mono ?_
                  rintro e w9 ⟨rfl, hb⟩
                  refine hK _ _ ?_
                  clear hK K
                  have j1 := ((I1.out.alloc (.cells #[.bool x0, .int .i64 x1, .bool x2, .int .u64 x3, .int .i64 x4, .int .i64 x5, .bool x6, .int .u64 x7, .int .i64 x8, .bool y0, .int .i64 y1, .bool y2, .int .u64 y3, .int .i64 y4, .int .i64 y5, .bool y6, .int .u64 y7, .int .i64 y8] 26)).drew).call hb
                  obtain ⟨g0, gf0⟩ := j1.c1
                  have J1 := Lib.hid j1
                  have J2 := Lib.hid (((I2.out.alloc (.cells #[.bool x0, .int .i64 x1, .bool x2, .int .u64 x3, .int .i64 x4, .int .i64 x5, .bool x6, .int .u64 x7, .int .i64 x8, .bool y0, .int .i64 y1, .bool y2, .int .u64 y3, .int .i64 y4, .int .i64 y5, .bool y6, .int .u64 y7, .int .i64 y8] 26)).drew).call hb)
                  have hLw := j1.lt
                  have Hb := Lib.hid hb
                  clear hb j1
                  refine wpAnyIn_ready (rs := [0, 5]) (by kernel_rfl) (by simp) ?_
                  refine AllReadyIn.cons rfl (fun K hK => ?_) ?_
                  · skip
                    go_simp
                    refine hK _ _ ?_
                    clear hK K
                    refine wpAnyIn_ready (rs := [5]) (by kernel_rfl) (by simp) ?_
                    refine AllReadyIn.cons rfl (fun K hK => ?_) ?_
                    · skip
                      go_simp
                      refine hK _ _ ?_
                      clear hK K
                      refine wpAnyIn_ready (rs := [6]) (by kernel_rfl) (by simp) ?_
                      refine AllReadyIn.cons rfl (fun K hK => ?_) ?_
                      · skip
                        refine stepIn_appI (by rfl) (.tmp 29) (.tmp 34) (by rfl) w2.heap.size v L (by rfl) (J2.out.alloc (.cells #[.bool r0, .int .i64 r1, .bool r2, .int .u64 r3, .int .i64 r4, .int .i64 r5, .bool r6, .int .u64 r7, .int .i64 r8] 26)) (w9.heap.size + 1) ⟨w9.heap.size, 0, none⟩ 1 1 [⟨r0, ⟨r1, r2, r3, r4⟩, ⟨r5, r6, r7, r8⟩⟩] (by rfl) (SlI.lit1 (Blk.new w9 _ _) (by omega)) (by omega) (by simp; omega) ?_
                        intro v3 w3 O3 hg3 hat3
                        obtain ⟨A3, n3, c3, rfl⟩ := O3.form
                        refine hK _ _ ?_
                        clear hK K
                        have k1 := (J1.out.alloc (.cells #[.bool r0, .int .i64 r1, .bool r2, .int .u64 r3, .int .i64 r4, .int .i64 r5, .bool r6, .int .u64 r7, .int .i64 r8] 26)).grown hg3 (fun e => by have := I3.out _ e.symm; omega)
                        obtain ⟨h0, hf0⟩ := k1.c1
                        have K1 := Lib.hid k1
                        have O3' := Lib.hid O3
                        have Hg3 := Lib.hid hg3
                        have Hat := Lib.hid hat3
                        clear O3 hg3 hat3 k1
                        refine wpAnyIn_ready (rs := [7]) (by kernel_rfl) (by simp) ?_
                        refine AllReadyIn.cons rfl (fun K hK => ?_) ?_
                        · skip
                          go_simp
                          refine hK _ _ ?_
                          clear hK K
                          refine wpAnyIn_done (by kernel_rfl) ?_ _
                          have FIN := app_round (B' := W0.heap.size) hN2 hB I1.out I2.out I3.out i4 i5 Hb.out O3'.out Hg3.out Hat.out
                          rw [← Hsn.out] at FIN
                          gi_wp2
                          exact FIN
                        exact AllReadyIn.nil
                      exact AllReadyIn.nil
                    exact AllReadyIn.nil
                  refine AllReadyIn.cons rfl (fun K hK => ?_) ?_
                  · skip
                    go_simp
                    refine hK _ _ ?_
                    clear hK K
                    refine wpAnyIn_ready (rs := [0]) (by kernel_rfl) (by simp) ?_
                    refine AllReadyIn.cons rfl (fun K hK => ?_) ?_
                    · skip
                      go_simp
                      refine hK _ _ ?_
                      clear hK K
                      refine wpAnyIn_ready (rs := [6]) (by kernel_rfl) (by simp) ?_
                      refine AllReadyIn.cons rfl (fun K hK => ?_) ?_
                      · skip
                        refine stepIn_appI (by rfl) (.tmp 29) (.tmp 34) (by rfl) w2.heap.size v L (by rfl) (J2.out.alloc (.cells #[.bool r0, .int .i64 r1, .bool r2, .int .u64 r3, .int .i64 r4, .int .i64 r5, .bool r6, .int .u64 r7, .int .i64 r8] 26)) (w9.heap.size + 1) ⟨w9.heap.size, 0, none⟩ 1 1 [⟨r0, ⟨r1, r2, r3, r4⟩, ⟨r5, r6, r7, r8⟩⟩] (by rfl) (SlI.lit1 (Blk.new w9 _ _) (by omega)) (by omega) (by simp; omega) ?_
                        intro v3 w3 O3 hg3 hat3
                        obtain ⟨A3, n3, c3, rfl⟩ := O3.form
                        refine hK _ _ ?_
                        clear hK K
                        have k1 := (J1.out.alloc (.cells #[.bool r0, .int .i64 r1, .bool r2, .int .u64 r3, .int .i64 r4, .int .i64 r5, .bool r6, .int .u64 r7, .int .i64 r8] 26)).grown hg3 (fun e => by have := I3.out _ e.symm; omega)
                        obtain ⟨h0, hf0⟩ := k1.c1
                        have K1 := Lib.hid k1
                        have O3' := Lib.hid O3
                        have Hg3 := Lib.hid hg3
                        have Hat := Lib.hid hat3
                        clear O3 hg3 hat3 k1
                        refine wpAnyIn_ready (rs := [7]) (by kernel_rfl) (by simp) ?_
                        refine AllReadyIn.cons rfl (fun K hK => ?_) ?_
                        · skip
                          go_simp
                          refine hK _ _ ?_
                          clear hK K
                          refine wpAnyIn_done (by kernel_rfl) ?_ _
                          have FIN := app_round (B' := W0.heap.size) hN2 hB I1.out I2.out I3.out i4 i5 Hb.out O3'.out Hg3.out Hat.out
                          rw [← Hsn.out] at FIN
                          gi_wp2
                          exact FIN
                        exact AllReadyIn.nil
                      exact AllReadyIn.nil
                    exact AllReadyIn.nil
                  exact AllReadyIn.nil
                exact AllReadyIn.nil
              exact AllReadyIn.nil
            exact AllReadyIn.nil
          refine AllReadyIn.cons rfl (fun K hK => ?_) ?_
          · skip
            go_simp
            refine hK _ _ ?_
            clear hK K
            refine wpAnyIn_ready (rs := [0, 1]) (by kernel_rfl) (by simp) ?_
            refine AllReadyIn.cons rfl (fun K hK => ?_) ?_
            · skip
              go_simp
              refine hK _ _ ?_
              clear hK K
              refine wpAnyIn_ready (rs := [1]) (by kernel_rfl) (by simp) ?_
              refine AllReadyIn.cons rfl (fun K hK => ?_) ?_
              · skip
                go_simp
                refine hK _ _ ?_
                clear hK K
                refine wpAnyIn_ready (rs := [3]) (by kernel_rfl) (by simp) ?_
                refine AllReadyIn.cons rfl (fun K hK => ?_) ?_
                · skip
                  go_simp
                  refine hK _ _ ?_
                  clear hK K
                  refine wpAnyIn_ready (rs := [4]) (by kernel_rfl) (by simp) ?_
                  refine AllReadyIn.cons rfl (fun K hK => ?_) ?_
                  · skip
                    go_simp
                    refine ⟨trivial, ?_⟩
                    refine (CallsIn.inRound l (callsIn_wide.2 (HM.out _ _ (SlI.lit2 (x := ⟨x0, ⟨x1, x2, x3, x4⟩, ⟨x5, x6, x7, x8⟩⟩) (y := ⟨y0, ⟨y1, y2, y3, y4⟩, ⟨y5, y6, y7, y8⟩⟩) (Blk.new W _ _).drew (by simp))))).mono ?_
                    rintro e w9 ⟨rfl, hb⟩
                    refine hK _ _ ?_
                    clear hK K
                    have j1 := ((I1.out.alloc (.cells #[.bool x0, .int .i64 x1, .bool x2, .int .u64 x3, .int .i64 x4, .int .i64 x5, .bool x6, .int .u64 x7, .int .i64 x8, .bool y0, .int .i64 y1, .bool y2, .int .u64 y3, .int .i64 y4, .int .i64 y5, .bool y6, .int .u64 y7, .int .i64 y8] 26)).drew).call hb
                    obtain ⟨g0, gf0⟩ := j1.c1
                    have J1 := Lib.hid j1
                    have J2 := Lib.hid (((I2.out.alloc (.cells #[.bool x0, .int .i64 x1, .bool x2, .int .u64 x3, .int .i64 x4, .int .i64 x5, .bool x6, .int .u64 x7, .int .i64 x8, .bool y0, .int .i64 y1, .bool y2, .int .u64 y3, .int .i64 y4, .int .i64 y5, .bool y6, .int .u64 y7, .int .i64 y8] 26)).drew).call hb)
                    have hLw := j1.lt
                    have Hb := Lib.hid hb
                    clear hb j1
                    refine wpAnyIn_ready (rs := [5]) (by kernel_rfl) (by simp) ?_
                    refine AllReadyIn.cons rfl (fun K hK => ?_) ?_
                    · skip
                      go_simp
                      refine hK _ _ ?_
                      clear hK K
                      refine wpAnyIn_ready (rs := [6]) (by kernel_rfl) (by simp) ?_
                      refine AllReadyIn.cons rfl (fun K hK => ?_) ?_
                      · skip
                        refine stepIn_appI (by rfl) (.tmp 29) (.tmp 34) (by rfl) w2.heap.size v L (by rfl) (J2.out.alloc (.cells #[.bool r0, .int .i64 r1, .bool r2, .int .u64 r3, .int .i64 r4, .int .i64 r5, .bool r6, .int .u64 r7, .int .i64 r8] 26)) (w9.heap.size + 1) ⟨w9.heap.size, 0, none⟩ 1 1 [⟨r0, ⟨r1, r2, r3, r4⟩, ⟨r5, r6, r7, r8⟩⟩] (by rfl) (SlI.lit1 (Blk.new w9 _ _) (by omega)) (by omega) (by simp; omega) ?_
                        intro v3 w3 O3 hg3 hat3
                        obtain ⟨A3, n3, c3, rfl⟩ := O3.form
                        refine hK _ _ ?_
                        clear hK K
                        have k1 := (J1.out.alloc (.cells #[.bool r0, .int .i64 r1, .bool r2, .int .u64 r3, .int .i64 r4, .int .i64 r5, .bool r6, .int .u64 r7, .int .i64 r8] 26)).grown hg3 (fun e => by have := I3.out _ e.symm; omega)
                        obtain ⟨h0, hf0⟩ := k1.c1
                        have K1 := Lib.hid k1
                        have O3' := Lib.hid O3
                        have Hg3 := Lib.hid hg3
                        have Hat := Lib.hid hat3
                        clear O3 hg3 hat3 k1
                        refine wpAnyIn_ready (rs := [7]) (by kernel_rfl) (by simp) ?_
                        refine AllReadyIn.cons rfl (fun K hK => ?_) ?_
                        · skip
                          go_simp
                          refine hK _ _ ?_
                          clear hK K
                          refine wpAnyIn_done (by kernel_rfl) ?_ _
                          have FIN := app_round (B' := W0.heap.size) hN2 hB I1.out I2.out I3.out i4 i5 Hb.out O3'.out Hg3.out Hat.out
                          rw [← Hsn.out] at FIN
                          gi_wp2
                          exact FIN
                        exact AllReadyIn.nil
                      exact AllReadyIn.nil
                    exact AllReadyIn.nil
                  exact AllReadyIn.nil
                exact AllReadyIn.nil
              exact AllReadyIn.nil
            refine AllReadyIn.cons rfl (fun K hK => ?_) ?_
            · skip
              go_simp
              refine hK _ _ ?_
              clear hK K
              refine wpAnyIn_ready (rs := [0, 3]) (by kernel_rfl) (by simp) ?_
              refine AllReadyIn.cons rfl (fun K hK => ?_) ?_
              · skip
                go_simp
                refine hK _ _ ?_
                clear hK K
                refine wpAnyIn_ready (rs := [3]) (by kernel_rfl) (by simp) ?_
                refine AllReadyIn.cons rfl (fun K hK => ?_) ?_
                · skip
                  go_simp
                  refine hK _ _ ?_
                  clear hK K
                  refine wpAnyIn_ready (rs := [4]) (by kernel_rfl) (by simp) ?_
                  refine AllReadyIn.cons rfl (fun K hK => ?_) ?_
                  · skip
                    go_simp
                    refine ⟨trivial, ?_⟩
                    refine (CallsIn.inRound l (callsIn_wide.2 (HM.out _ _ (SlI.lit2 (x := ⟨x0, ⟨x1, x2, x3, x4⟩, ⟨x5, x6, x7, x8⟩⟩) (y := ⟨y0, ⟨y1, y2, y3, y4⟩, ⟨y5, y6, y7, y8⟩⟩) (Blk.new W _ _).drew (by simp))))).mono ?_
                    rintro e w9 ⟨rfl, hb⟩
                    refine hK _ _ ?_
                    clear hK K
                    have j1 := ((I1.out.alloc (.cells #[.bool x0, .int .i64 x1, .bool x2, .int .u64 x3, .int .i64 x4, .int .i64 x5, .bool x6, .int .u64 x7, .int .i64 x8, .bool y0, .int .i64 y1, .bool y2, .int .u64 y3, .int .i64 y4, .int .i64 y5, .bool y6, .int .u64 y7, .int .i64 y8] 26)).drew).call hb
                    obtain ⟨g0, gf0⟩ := j1.c1
                    have J1 := Lib.hid j1
                    have J2 := Lib.hid (((I2.out.alloc (.cells #[.bool x0, .int .i64 x1, .bool x2, .int .u64 x3, .int .i64 x4, .int .i64 x5, .bool x6, .int .u64 x7, .int .i64 x8, .bool y0, .int .i64 y1, .bool y2, .int .u64 y3, .int .i64 y4, .int .i64 y5, .bool y6, .int .u64 y7, .int .i64 y8] 26)).drew).call hb)
                    have hLw := j1.lt
                    have Hb := Lib.hid hb
                    clear hb j1
                    refine wpAnyIn_ready (rs := [5]) (by kernel_rfl) (by simp) ?_
                    refine AllReadyIn.cons rfl (fun K hK => ?_) ?_
                    · skip
                      go_simp
                      refine hK _ _ ?_
                      clear hK K
                      refine wpAnyIn_ready (rs := [6]) (by kernel_rfl) (by simp) ?_
                      refine AllReadyIn.cons rfl (fun K hK => ?_) ?_
                      · skip
                        refine stepIn_appI (by rfl) (.tmp 29) (.tmp 34) (by rfl) w2.heap.size v L (by rfl) (J2.out.alloc (.cells #[.bool r0, .int .i64 r1, .bool r2, .int .u64 r3, .int .i64 r4, .int .i64 r5, .bool r6, .int .u64 r7, .int .i64 r8] 26)) (w9.heap.size + 1) ⟨w9.heap.size, 0, none⟩ 1 1 [⟨r0, ⟨r1, r2, r3, r4⟩, ⟨r5, r6, r7, r8⟩⟩] (by rfl) (SlI.lit1 (Blk.new w9 _ _) (by omega)) (by omega) (by simp; omega) ?_
                        intro v3 w3 O3 hg3 hat3
                        obtain ⟨A3, n3, c3, rfl⟩ := O3.form
                        refine hK _ _ ?_
                        clear hK K
                        have k1 := (J1.out.alloc (.cells #[.bool r0, .int .i64 r1, .bool r2, .int .u64 r3, .int .i64 r4, .int .i64 r5, .bool r6, .int .u64 r7, .int .i64 r8] 26)).grown hg3 (fun e => by have := I3.out _ e.symm; omega)
                        obtain ⟨h0, hf0⟩ := k1.c1
                        have K1 := Lib.hid k1
                        have O3' := Lib.hid O3
                        have Hg3 := Lib.hid hg3
                        have Hat := Lib.hid hat3
                        clear O3 hg3 hat3 k1
                        refine wpAnyIn_ready (rs := [7]) (by kernel_rfl) (by simp) ?_
                        refine AllReadyIn.cons rfl (fun K hK => ?_) ?_
                        · skip
                          go_simp
                          refine hK _ _ ?_
                          clear hK K
                          refine wpAnyIn_done (by kernel_rfl) ?_ _
                          have FIN := app_round (B' := W0.heap.size) hN2 hB I1.out I2.out I3.out i4 i5 Hb.out O3'.out Hg3.out Hat.out
                          rw [← Hsn.out] at FIN
                          gi_wp2
                          exact FIN
                        exact AllReadyIn.nil
                      exact AllReadyIn.nil
                    exact AllReadyIn.nil
                  exact AllReadyIn.nil
                exact AllReadyIn.nil
              refine AllReadyIn.cons rfl (fun K hK => ?_) ?_
              · skip
                go_simp
                refine hK _ _ ?_
                clear hK K
                refine wpAnyIn_ready (rs := [0, 4]) (by kernel_rfl) (by simp) ?_
                refine AllReadyIn.cons rfl (fun K hK => ?_) ?_
                · skip
                  go_simp
                  refine hK _ _ ?_
                  clear hK K
                  refine wpAnyIn_ready (rs := [4]) (by kernel_rfl) (by simp) ?_
                  refine AllReadyIn.cons rfl (fun K hK => ?_) ?_
                  · skip
                    go_simp
                    refine ⟨trivial, ?_⟩
                    refine (CallsIn.inRound l (callsIn_wide.2 (HM.out _ _ (SlI.lit2 (x := ⟨x0, ⟨x1, x2, x3, x4⟩, ⟨x5, x6, x7, x8⟩⟩) (y := ⟨y0, ⟨y1, y2, y3, y4⟩, ⟨y5, y6, y7, y8⟩⟩) (Blk.new W _ _).drew (by simp))))).mono ?_
                    rintro e w9 ⟨rfl, hb⟩
                    refine hK _ _ ?_
                    clear hK K
                    have j1 := ((I1.out.alloc (.cells #[.bool x0, .int .i64 x1, .bool x2, .int .u64 x3, .int .i64 x4, .int .i64 x5, .bool x6, .int .u64 x7, .int .i64 x8, .bool y0, .int .i64 y1, .bool y2, .int .u64 y3, .int .i64 y4, .int .i64 y5, .bool y6, .int .u64 y7, .int .i64 y8] 26)).drew).call hb
                    obtain ⟨g0, gf0⟩ := j1.c1
                    have J1 := Lib.hid j1
                    have J2 := Lib.hid (((I2.out.alloc (.cells #[.bool x0, .int .i64 x1, .bool x2, .int .u64 x3, .int .i64 x4, .int .i64 x5, .bool x6, .int .u64 x7, .int .i64 x8, .bool y0, .int .i64 y1, .bool y2, .int .u64 y3, .int .i64 y4, .int .i64 y5, .bool y6, .int .u64 y7, .int .i64 y8] 26)).drew).call hb)
                    have hLw := j1.lt
                    have Hb := Lib.hid hb
                    clear hb j1
                    refine wpAnyIn_ready (rs := [5]) (by kernel_rfl) (by simp) ?_
                    refine AllReadyIn.cons rfl (fun K hK => ?_) ?_
                    · skip
                      go_simp
                      refine hK _ _ ?_
                      clear hK K
                      refine wpAnyIn_ready (rs := [6]) (by kernel_rfl) (by simp) ?_
                      refine AllReadyIn.cons rfl (fun K hK => ?_) ?_
                      · skip
                        refine stepIn_appI (by rfl) (.tmp 29) (.tmp 34) (by rfl) w2.heap.size v L (by rfl) (J2.out.alloc (.cells #[.bool r0, .int .i64 r1, .bool r2, .int .u64 r3, .int .i64 r4, .int .i64 r5, .bool r6, .int .u64 r7, .int .i64 r8] 26)) (w9.heap.size + 1) ⟨w9.heap.size, 0, none⟩ 1 1 [⟨r0, ⟨r1, r2, r3, r4⟩, ⟨r5, r6, r7, r8⟩⟩] (by rfl) (SlI.lit1 (Blk.new w9 _ _) (by omega)) (by omega) (by simp; omega) ?_
                        intro v3 w3 O3 hg3 hat3
                        obtain ⟨A3, n3, c3, rfl⟩ := O3.form
                        refine hK _ _ ?_
                        clear hK K
                        have k1 := (J1.out.alloc (.cells #[.bool r0, .int .i64 r1, .bool r2, .int .u64 r3, .int .i64 r4, .int .i64 r5, .bool r6, .int .u64 r7, .int .i64 r8] 26)).grown hg3 (fun e => by have := I3.out _ e.symm; omega)
                        obtain ⟨h0, hf0⟩ := k1.c1
                        have K1 := Lib.hid k1
                        have O3' := Lib.hid O3
                        have Hg3 := Lib.hid hg3
                        have Hat := Lib.hid hat3
                        clear O3 hg3 hat3 k1
                        refine wpAnyIn_ready (rs := [7]) (by kernel_rfl) (by simp) ?_
                        refine AllReadyIn.cons rfl (fun K hK => ?_) ?_
                        · skip
                          go_simp
                          refine hK _ _ ?_
                          clear hK K
                          refine wpAnyIn_done (by kernel_rfl) ?_ _
                          have FIN := app_round (B' := W0.heap.size) hN2 hB I1.out I2.out I3.out i4 i5 Hb.out O3'.out Hg3.out Hat.out
                          rw [← Hsn.out] at FIN
                          gi_wp2
                          exact FIN
                        exact AllReadyIn.nil
                      exact AllReadyIn.nil
                    exact AllReadyIn.nil
                  exact AllReadyIn.nil
                refine AllReadyIn.cons rfl (fun K hK => ?_) ?_
                · skip
                  go_simp
                  refine ⟨trivial, ?_⟩
                  refine (CallsIn.inRound l (callsIn_wide.2 (HM.out _ _ (SlI.lit2 (x := ⟨x0, ⟨x1, x2, x3, x4⟩, ⟨x5, x6, x7, x8⟩⟩) (y := ⟨y0, ⟨y1, y2, y3, y4⟩, ⟨y5, y6, y7, y8⟩⟩) (Blk.new W _ _).drew (by simp))))).mono ?_
                  rintro e w9 ⟨rfl, hb⟩
                  refine hK _ _ ?_
                  clear hK K
                  have j1 := ((I1.out.alloc (.cells #[.bool x0, .int .i64 x1, .bool x2, .int .u64 x3, .int .i64 x4, .int .i64 x5, .bool x6, .int .u64 x7, .int .i64 x8, .bool y0, .int .i64 y1, .bool y2, .int .u64 y3, .int .i64 y4, .int .i64 y5, .bool y6, .int .u64 y7, .int .i64 y8] 26)).drew).call hb
                  obtain ⟨g0, gf0⟩ := j1.c1
                  have J1 := Lib.hid j1
                  have J2 := Lib.hid (((I2.out.alloc (.cells #[.bool x0, .int .i64 x1, .bool x2, .int .u64 x3, .int .i64 x4, .int .i64 x5, .bool x6, .int .u64 x7, .int .i64 x8, .bool y0, .int .i64 y1, .bool y2, .int .u64 y3, .int .i64 y4, .int .i64 y5, .bool y6, .int .u64 y7, .int .i64 y8] 26)).drew).call hb)
                  have hLw := j1.lt
                  have Hb := Lib.hid hb
                  clear hb j1
                  refine wpAnyIn_ready (rs := [0, 5]) (by kernel_rfl) (by simp) ?_
                  refine AllReadyIn.cons rfl (fun K hK => ?_) ?_
                  · skip
                    go_simp
                    refine hK _ _ ?_
                    clear hK K
                    refine wpAnyIn_ready (rs := [5]) (by kernel_rfl) (by simp) ?_
                    refine AllReadyIn.cons rfl (fun K hK => ?_) ?_
                    · skip
                      go_simp
                      refine hK _ _ ?_
                      clear hK K
                      refine wpAnyIn_ready (rs := [6]) (by kernel_rfl) (by simp) ?_
                      refine AllReadyIn.cons rfl (fun K hK => ?_) ?_
                      · skip
                        refine stepIn_appI (by rfl) (.tmp 29) (.tmp 34) (by rfl) w2.heap.size v L (by rfl) (J2.out.alloc (.cells #[.bool r0, .int .i64 r1, .bool r2, .int .u64 r3, .int .i64 r4, .int .i64 r5, .bool r6, .int .u64 r7, .int .i64 r8] 26)) (w9.heap.size + 1) ⟨w9.heap.size, 0, none⟩ 1 1 [⟨r0, ⟨r1, r2, r3, r4⟩, ⟨r5, r6, r7, r8⟩⟩] (by rfl) (SlI.lit1 (Blk.new w9 _ _) (by omega)) (by omega) (by simp; omega) ?_
                        intro v3 w3 O3 hg3 hat3
                        obtain ⟨A3, n3, c3, rfl⟩ := O3.form
                        refine hK _ _ ?_
                        clear hK K
                        have k1 := (J1.out.alloc (.cells #[.bool r0, .int .i64 r1, .bool r2, .int .u64 r3, .int .i64 r4, .int .i64 r5, .bool r6, .int .u64 r7, .int .i64 r8] 26)).grown hg3 (fun e => by have := I3.out _ e.symm; omega)
                        obtain ⟨h0, hf0⟩ := k1.c1
                        have K1 := Lib.hid k1
                        have O3' := Lib.hid O3
                        have Hg3 := Lib.hid hg3
                        have Hat := Lib.hid hat3
                        clear O3 hg3 hat3 k1
                        refine wpAnyIn_ready (rs := [7]) (by kernel_rfl) (by simp) ?_
                        refine AllReadyIn.cons rfl (fun K hK => ?_) ?_
                        · skip
                          go_simp
                          refine hK _ _ ?_
                          clear hK K
                          refine wpAnyIn_done (by kernel_rfl) ?_ _
                          have FIN := app_round (B' := W0.heap.size) hN2 hB I1.out I2.out I3.out i4 i5 Hb.out O3'.out Hg3.out Hat.out
                          rw [← Hsn.out] at FIN
                          gi_wp2
                          exact FIN
                        exact AllReadyIn.nil
                      exact AllReadyIn.nil
                    exact AllReadyIn.nil
                  refine AllReadyIn.cons rfl (fun K hK => ?_) ?_
                  · skip
                    go_simp
                    refine hK _ _ ?_
                    clear hK K
                    refine wpAnyIn_ready (rs := [0]) (by kernel_rfl) (by simp) ?_
                    refine AllReadyIn.cons rfl (fun K hK => ?_) ?_
                    · skip
                      go_simp
                      refine hK _ _ ?_
                      clear hK K
                      refine wpAnyIn_ready (rs := [6]) (by kernel_rfl) (by simp) ?_
                      refine AllReadyIn.cons rfl (fun K hK => ?_) ?_
                      · skip
                        refine stepIn_appI (by rfl) (.tmp 29) (.tmp 34) (by rfl) w2.heap.size v L (by rfl) (J2.out.alloc (.cells #[.bool r0, .int .i64 r1, .bool r2, .int .u64 r3, .int .i64 r4, .int .i64 r5, .bool r6, .int .u64 r7, .int .i64 r8] 26)) (w9.heap.size + 1) ⟨w9.heap.size, 0, none⟩ 1 1 [⟨r0, ⟨r1, r2, r3, r4⟩, ⟨r5, r6, r7, r8⟩⟩] (by rfl) (SlI.lit1 (Blk.new w9 _ _) (by omega)) (by omega) (by simp; omega) ?_
                        intro v3 w3 O3 hg3 hat3
                        obtain ⟨A3, n3, c3, rfl⟩ := O3.form
                        refine hK _ _ ?_
                        clear hK K
                        have k1 := (J1.out.alloc (.cells #[.bool r0, .int .i64 r1, .bool r2, .int .u64 r3, .int .i64 r4, .int .i64 r5, .bool r6, .int .u64 r7, .int .i64 r8] 26)).grown hg3 (fun e => by have := I3.out _ e.symm; omega)
                        obtain ⟨h0, hf0⟩ := k1.c1
                        have K1 := Lib.hid k1
                        have O3' := Lib.hid O3
                        have Hg3 := Lib.hid hg3
                        have Hat := Lib.hid hat3
                        clear O3 hg3 hat3 k1
                        refine wpAnyIn_ready (rs := [7]) (by kernel_rfl) (by simp) ?_
                        refine AllReadyIn.cons rfl (fun K hK => ?_) ?_
                        · skip
                          go_simp
                          refine hK _ _ ?_
                          clear hK K
                          refine wpAnyIn_done (by kernel_rfl) ?_ _
                          have FIN := app_round (B' := W0.heap.size) hN2 hB I1.out I2.out I3.out i4 i5 Hb.out O3'.out Hg3.out Hat.out
                          rw [← Hsn.out] at FIN
                          gi_wp2
                          exact FIN
                        exact AllReadyIn.nil
                      exact AllReadyIn.nil
                    exact AllReadyIn.nil
                  exact AllReadyIn.nil
                exact AllReadyIn.nil
              exact AllReadyIn.nil
            exact AllReadyIn.nil
          exact AllReadyIn.nil
        case done =>
          rintro D zs W hD rfl ⟨⟨v, i1, i2, i3, i4, i5⟩, hB⟩ hK
          have hDl : D < W.heap.size := (Array.getElem?_eq_some_iff.1 hK).1
          rw [zip_map] at i2
          obtain ⟨A1, n1, c1, rfl⟩ := i2.form
          obtain ⟨q0, f0⟩ := i1.c1
          have I2 := Lib.hid i2
          have I3 := Lib.hid i3
          have HK := Lib.hid hK
          clear i1 i2 i3 i4 i5 hK
          gi_wp2
          refine ⟨by simp, .inl ⟨_, _, rfl, run_takeDeferred HK.out, ?_⟩⟩
          refine ⟨.slice A1 n1 c1, by simp [results, Try.results36, go_sem], _, rfl, (I2.out.base hb12.size).same fun k hk => World.putObj_heap_other (by intro e; obtain ⟨cur, hc⟩ := I2.out.cells hk; have h' := HK.out; first | (rw [← e] at h'; rw [show W.heap[k]? = _ from hc] at h'; cases h') | (rw [e] at h'; rw [show W.heap[k]? = _ from hc] at h'; cases h')), (bl_trans hb12 hB).trans (belowK_b (w := w) (Nat.le_refl _) _ D _ _ (by have := hb12.size; omega) HK.out rfl rfl)⟩
        case stop =>
          rintro D c' pre W hD ⟨k, hk, rfl⟩ ⟨hF, hB⟩ hK
          exact hF.elim
      · rw [hp2] at HE2
        rw [if_pos rfl]
        have HF := Lib.hid (fun W h => fairB_calls A n c xs W h hn)
        gi_wp2_with (refine ⟨trivial, ?_⟩; first
          | (gi_at_call 40; first
            | (refine (callsIn_wide.2 (HE.out w hs)).mono ?_; rintro e w1 ⟨rfl, hb1⟩)
            | (refine (callsIn_wide.2 (HE2.out w1 (ht.on hb1))).mono ?_; rintro e w2 ⟨rfl, hb2⟩; have hb12 := bl_trans hb1 hb2))
          | (gi_at_call 38; refine (callsIn_wide.2 (HF.out _ (hs.on hb12))).mono ?_; rintro e w3 ⟨v, rfl, O3, hb3⟩))
        exact ⟨v, by simp [results, Try.results36, go_sem], _, rfl, O3.base hb12.size, bl_trans hb12 hb3⟩
    · rw [hp] at HE
      rw [if_pos rfl]
      have HF := Lib.hid (fun W h => fairB_calls B n d ys W h hn)
      gi_wp2_with (refine ⟨trivial, ?_⟩; first
        | (gi_at_call 40; refine (callsIn_wide.2 (HE.out w hs)).mono ?_; rintro e w1 ⟨rfl, hb1⟩)
        | (gi_at_call 38; refine (callsIn_wide.2 (HF.out _ (ht.on hb1))).mono ?_; rintro e w3 ⟨v, rfl, O3, hb3⟩))
      exact ⟨v, by simp [results, Try.results36, go_sem], _, rfl, O3.base hb1.size, bl_trans hb1 hb3⟩
  · rw [if_neg hnm]
    have hq : ((n : Int) != m) = true := by simp; omega
    gi_wp2
    exact ⟨.slice none 0 0, by simp [results, Try.results36, go_sem], _, rfl, OwnI.nil _ _, Below.refl _ _⟩
end Go.Proofs.Ytagojbgmgkkdpaa.Wk
