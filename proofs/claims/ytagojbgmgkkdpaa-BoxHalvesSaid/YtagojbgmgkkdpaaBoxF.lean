/- Walk: box.Within. -/
import Derived.Test.YtagojbgmgkkdpaaBoxC
import Derived.Test.YtagojbgmgkkdpaaIvC
import Derived.Shelf.Abstract
namespace Go.Proofs.Ytagojbgmgkkdpaa.Wk
open Go.RowKit Go.Shelf Go.Proofs.Pl Go.Proofs.YtagojbgmgkkdpaaW.PrintLast
set_option linter.unusedSimpArgs false
set_option linter.unusedVariables false
attribute [local go_sem] Oper.semAt_some

theorem keepsFrom_below {W W' : World} (hb : Below W.heap.size W W') (B : Nat) : KeepsFrom B W W' := ⟨hb.size, fun k o _ hk _ => (hb.block k (Array.getElem?_eq_some_iff.1 hk).1).trans hk⟩
theorem blk_own {β : Type} (g : Nat) (t : TypeId) (f : β → Array Value) : Own (fun s W => Blk W g t (f s)) := fun s X Y row hs hg hrow =>
  Blk.grown hs hg (fun e' => by obtain ⟨o, ho, hc⟩ := hrow g e'.symm; rw [show X.heap[g]? = _ from hs] at ho; cases ho; cases hc)
theorem Blk.c1 {w : World} {g : Nat} {t : TypeId} {x0 : Value} (h : Blk w g t #[x0]) : w.cell? ⟨g, 0, none⟩ = some x0 ∧ w.frozen? ⟨g, 0, none⟩ = false := ⟨h.cell 0, h.frozen 0⟩
theorem within_results (tmps : Array Value) (W : World) (r0 : Nat) (p : Bool) (h4 : tmps[4]?.getD undef = .pointer (some ⟨r0, 0, none⟩)) (hb0 : Blk W r0 4 #[.bool p]) :
    (results Try.f44 tmps).run Try.prog W = .ok (.bool p) W := by
  obtain ⟨q0, _⟩ := hb0.c1
  simp [results, Try.results44, go_sem, h4, q0]
theorem withinL_zip : ∀ (a b : List Iv), a.length = b.length → (withinL a b = true ↔ ∀ x ∈ List.zip a b, withinI x.1 x.2 = true)
  | [], [], _ => by simp [withinL]
  | x :: a, y :: b, h => by
    simp only [withinL, List.zip_cons_cons, List.mem_cons, Bool.and_eq_true, withinL_zip a b (by simpa using h)]
    constructor
    · rintro ⟨h1, h2⟩ z (rfl | hz)
      · exact h1
      · exact h2 z hz
    · intro h
      exact ⟨h (x, y) (.inl rfl), fun z hz => h z (.inr hz)⟩
set_option maxRecDepth 100000 in
set_option maxHeartbeats 4000000 in
theorem withinB_calls (A : Option Addr) (n c : Nat) (xs : List Iv) (B : Option Addr) (m d : Nat) (ys : List Iv) (w : World) (hs : SlI w w.heap.size A n xs) (ht : SlI w w.heap.size B m ys) (hn : n ≤ 1000) :
    Calls Try.prog 44 #[.slice A n c, .slice B m d] w fun e w' => e = .returned (.bool (withinB xs ys)) ∧ Below w.heap.size w w' := by
  refine (callsIn_wide (n := 4)).1 ?_
  refine callsIn_of_wp_marks Try.func44 rfl trivial ?_ rfl
  simp only [Try.ntmps44, List.size_toArray, List.length_cons, List.length_nil, Nat.reduceAdd, Nat.reduceSub, Array.replicate_succ, Array.replicate_zero, List.push_toArray, List.append_toArray, List.nil_append, List.cons_append]
  have BA := Blk.new w 4 #[.bool false]
  have HB := bl_alloc (Below.refl w.heap.size w) (.cells #[.bool false] 4)
  have HE := Lib.hid (fun W h => emptyB_calls A n c xs W h hn)
  unfold withinB
  rw [hs.1, ht.1]
  by_cases hnm : n = m
  · subst hnm
    rw [decide_eq_true rfl, Bool.true_and]
    have hq : ((n : Int) != n) = false := by simp
    cases hp : emptyB xs
    · rw [hp] at HE
      rw [Bool.false_or]
      gi_wp2_with (refine ⟨trivial, ?_⟩; first
        | (gi_at_call 40; refine (callsIn_wide.2 (HE.out _ (hs.on HB))).mono ?_; rintro e w1 ⟨rfl, hb⟩; have BA1 := BA.call hb; have HB1 := bl_trans HB hb; obtain ⟨q0, f0⟩ := BA1.c1; clear hb HE BA HB)
        | (gi_at_call 79; refine (callsIn_wide.2 (pairs_calls A n c B n d _)).mono ?_; rintro e w' ⟨rfl, rfl⟩))
      have hl1 := BA1.lt
      have BX := (Blk.new w1 41 #[.slice A n c]).alloc (.cells #[.slice B n d] 41)
      have BY := Blk.new1 w1 (.cells #[.slice A n c] 41) 41 #[.slice B n d]
      have BA2 := (BA1.alloc (.cells #[.slice A n c] 41)).alloc (.cells #[.slice B n d] 41)
      have HB2 := bl_alloc (bl_alloc HB1 (.cells #[.slice A n c] 41)) (.cells #[.slice B n d] 41)
      have hsz : ((w1.alloc (.cells #[.slice A n c] 41)).alloc (.cells #[.slice B n d] 41)).heap.size = w1.heap.size + 2 := by simp
      obtain ⟨W0, hW0⟩ : ∃ W0, (w1.alloc (.cells #[.slice A n c] 41)).alloc (.cells #[.slice B n d] 41) = W0 := ⟨_, rfl⟩
      rw [hW0] at BX BY BA2 HB2 hsz ⊢
      have hs2 := hs.below HB2
      have ht2 := ht.below HB2
      clear hW0 BA1 HB1 q0 f0 hs ht
      generalize hN : w1.heap.size = N at BX BY hsz hl1 ⊢
      clear hN
      refine wpIn_rangeFunc_ownH rfl (by omega) (gf := 113) (lb := #[.pointer (some ⟨N, 0, none⟩), .pointer (some ⟨N + 1, 0, none⟩)]) rfl trivial (enters_of Try.func113 (by kernel_rfl) rfl)
        (pairs_stops 3 (by omega) N (N + 1) w.heap.size n c d A B xs ys hn W0 BX BY (by omega) hs2 ht2) KpP.trans
        (fun W l o o' hl h1 h2 h3 => ⟨belowK_b (w := W0) (by omega) W l o o' hl h1 h2 h3, World.putObj_heap_other (by omega), World.putObj_heap_other (by omega)⟩) (Below.refl _ _) (fun _ => rfl)
        (fun pre W => ((Blk W w.heap.size 4 #[.bool false] ∧ Blk W N 41 #[.slice A n c] ∧ Blk W (N + 1) 41 #[.slice B n d]) ∧ (∀ x ∈ pre, withinI x.1 x.2 = true)) ∧ Below w.heap.size w W)
        (fun c pre W => (Blk W w.heap.size 4 #[.bool false] ∧ c = .ret ∧ ∃ x ∈ pre, withinI x.1 x.2 = false) ∧ Below w.heap.size w W)
        ?hI ?hIx ?h0
        (fun x a' W => ∃ P Q, N + 1 < P ∧ N + 1 < Q ∧ P ≠ Q ∧ (Blk W P 26 (ivCells x.1).toArray ∧ Blk W Q 26 (ivCells x.2).toArray) ∧ a' = { tmps := #[.slice A n c, .slice B n d, undef, undef, .pointer (some ⟨w.heap.size, 0, none⟩), .pointer (some ⟨P, 0, none⟩), .pointer (some ⟨Q, 0, none⟩), .bool false, .slice A n c, .int .i64 n, .slice B n d, .int .i64 n, .bool false, .bool false, .slice A n c, .bool false, .slice A n c, .slice B n d, .func (.func 113) #[] #[.pointer (some ⟨N, 0, none⟩), .pointer (some ⟨N + 1, 0, none⟩)], .agg (ivCells x.1).toArray, .agg (ivCells x.2).toArray, undef, undef, undef, undef], defers := [] })
        ?hAx ?assign ?body ?done ?stop
      case hI =>
        refine OwnFrom.and (OwnFrom.and (Own.from (fun s X Y row h hg hr => ⟨blk_own _ _ (fun _ => #[.bool false]) s X Y row h.1 hg hr, blk_own _ _ (fun _ => #[.slice A n c]) s X Y row h.2.1 hg hr, blk_own _ _ (fun _ => #[.slice B n d]) s X Y row h.2.2 hg hr⟩) _) (ownFrom_pure _ _)) (ownFrom_below (Nat.le_refl _) (by omega))
      case hIx =>
        intro c
        exact OwnFrom.and (OwnFrom.and (Own.from (fun s X Y row h hg hr => blk_own _ _ (fun _ => #[.bool false]) s X Y row h hg hr) _) (ownFrom_pure _ _)) (ownFrom_below (Nat.le_refl _) (by omega))
      case h0 => exact ⟨⟨⟨BA2, BX, BY⟩, fun x hx => by cases hx⟩, HB2⟩
      case hAx =>
        intro x a'
        rintro s X Y row ⟨P, Q, h1, h2, h3, h4, h5⟩ hg hr
        exact ⟨P, Q, h1, h2, h3, ⟨blk_own _ _ (fun _ : Unit => (ivCells x.1).toArray) s X Y row h4.1 hg (fun r e => (hr r e).2), blk_own _ _ (fun _ : Unit => (ivCells x.2).toArray) s X Y row h4.2 hg (fun r e => (hr r e).2)⟩, h5⟩
      case assign =>
        rintro l pre ⟨x, y⟩ W K ⟨⟨⟨i1, i2, i3⟩, hg⟩, hB⟩ hK
        dsimp only at hK
        have hb2 : Below W.heap.size W ((W.alloc (.cells (ivCells x).toArray 26)).alloc (.cells (ivCells y).toArray 26)) := bl_alloc (bl_alloc (Below.refl _ _) _) _
        have hNW := i3.lt
        have hK2 := hK _ _ (keepsFrom_below hb2 _) ⟨hb2.mono hB.size, hb2.block _ (by omega), hb2.block _ hNW⟩ ⟨⟨⟨i1.call hb2, i2.call hb2, i3.call hb2⟩, hg⟩, bl_trans hB hb2⟩
          ⟨W.heap.size, W.heap.size + 1, by omega, by omega, by omega, ⟨(Blk.new W _ _).alloc _, Blk.new1 W _ _ _⟩, rfl⟩
        clear hK i1 i2 i3 hg hB hb2
        dsimp only [encP, ivCells] at hK2 ⊢
        gi_wp2
        exact hK2
      case body =>
        rintro l pre ⟨x, y⟩ a' W hl ⟨r, hr⟩ ⟨⟨⟨i1, i2, i3⟩, hg⟩, hB⟩ ⟨P, Q, hP, hQ, hPQ, ⟨bP, bQ⟩, rfl⟩ hlen
        obtain ⟨x0, ⟨x1, x2, x3, x4⟩, ⟨x5, x6, x7, x8⟩⟩ := x
        obtain ⟨y0, ⟨y1, y2, y3, y4⟩, ⟨y5, y6, y7, y8⟩⟩ := y
        have HQ := Lib.hid (fun W => withinI_calls x0 x1 x2 x3 x4 x5 x6 x7 x8 y0 y1 y2 y3 y4 y5 y6 y7 y8 W)
        generalize hqq : withinI ⟨x0, ⟨x1, x2, x3, x4⟩, ⟨x5, x6, x7, x8⟩⟩ ⟨y0, ⟨y1, y2, y3, y4⟩, ⟨y5, y6, y7, y8⟩⟩ = qq at HQ
        have Hqq := Lib.hid hqq
        clear hqq
        dsimp only [ivCells] at bP bQ ⊢
        obtain ⟨⟨p0, p1, p2, p3, p4, p5, p6, p7, p8⟩, _⟩ := bP.c9
        obtain ⟨⟨t0, t1, t2, t3, t4, t5, t6, t7, t8⟩, _⟩ := bQ.c9
        have Hg := Lib.hid hg
        have hPW := bP.lt
        have hQW := bQ.lt
        clear hg
        cases qq
        · gi_wp2_with (refine ⟨trivial, ?_⟩; gi_at_call 18; refine (CallsIn.inRound l (callsIn_wide.2 (HQ.out _))).mono ?_; rintro e w2 ⟨rfl, hb⟩; have j1 := i1.call hb; obtain ⟨q1, f1⟩ := j1.c1)
          exact ⟨(keepsFrom_below hb _).trans ((KeepsOthers.setCell _ _ _).from _),
            ⟨j1.set_ 0 _, rfl, _, List.mem_append_right _ (List.mem_singleton.2 rfl), Hqq.out⟩,
            (bl_trans hB hb).setCell (p := ⟨w.heap.size, 0, none⟩) (Nat.le_refl _) _⟩
        · gi_wp2_with (refine ⟨trivial, ?_⟩; gi_at_call 18; refine (CallsIn.inRound l (callsIn_wide.2 (HQ.out _))).mono ?_; rintro e w2 ⟨rfl, hb⟩)
          exact ⟨keepsFrom_below hb _, ⟨hb.mono hB.size, hb.block _ i2.lt, hb.block _ i3.lt⟩,
            ⟨⟨i1.call hb, i2.call hb, i3.call hb⟩, fun z hz => by
              rcases List.mem_append.1 hz with h | h
              · exact Hg.out z h
              · rw [List.mem_singleton.1 h]; exact Hqq.out⟩, bl_trans hB hb⟩
      case done =>
        rintro D zs W hD rfl ⟨⟨⟨i1, i2, i3⟩, hg⟩, hB⟩ hK
        have hwl : withinL xs ys = true := (withinL_zip xs ys (by rw [hs2.1, ht2.1])).2 hg
        obtain ⟨q0, f0⟩ := i1.c1
        gi_wp2
        have hK' := (KeepsOthers.setCell W ⟨w.heap.size, 0, none⟩ (.bool true)).same D _ hK rfl
        refine ⟨by simp, .inl ⟨_, _, rfl, run_takeDeferred hK', ?_⟩⟩
        have b0 := i1.set_ 0 (.bool true)
        have hbw := hB.setCell (p := ⟨w.heap.size, 0, none⟩) (Nat.le_refl _) (.bool true)
        rw [hwl]
        exact ⟨_, within_results _ _ w.heap.size true rfl ((World.putObj_heap_other (by omega)).trans b0), rfl, hbw.trans (belowK_b (w := w) (Nat.le_refl _) _ D _ _ (by omega) hK' rfl rfl)⟩
      case stop =>
        rintro D c' pre W hD ⟨k, hk, rfl⟩ ⟨⟨i1, rfl, hbad⟩, hB⟩ hK
        have hwl : withinL xs ys = false := by
          cases h : withinL xs ys
          · rfl
          · obtain ⟨z, hz, hz2⟩ := hbad
            have := (withinL_zip xs ys (by rw [hs2.1, ht2.1])).1 h z (List.mem_of_mem_take hz)
            rw [hz2] at this
            cases this
        gi_wp2
        refine ⟨by simp, .inl ⟨_, _, rfl, run_takeDeferred hK, ?_⟩⟩
        exact ⟨_, within_results _ _ w.heap.size false rfl ((World.putObj_heap_other (by omega)).trans i1), by rw [hwl], hB.trans (belowK_b (w := w) (Nat.le_refl _) _ D _ _ (by omega) hK rfl rfl)⟩
    · rw [hp] at HE
      rw [Bool.true_or]
      gi_wp2_with (refine ⟨trivial, ?_⟩; gi_at_call 40; refine (callsIn_wide.2 (HE.out _ (hs.on HB))).mono ?_; rintro e w1 ⟨rfl, hb⟩; have BA1 := BA.call hb; have HB1 := bl_trans HB hb; obtain ⟨q0, f0⟩ := BA1.c1; clear hb HE BA HB)
      exact ⟨_, within_results _ _ w.heap.size true rfl (BA1.set_ 0 _), rfl, bl_set HB1 (p := ⟨w.heap.size, 0, none⟩) (Nat.le_refl _) _⟩
  · have hq : ((n : Int) != m) = true := by simp; omega
    rw [decide_eq_false hnm, Bool.false_and]
    obtain ⟨q0, f0⟩ := BA.c1
    gi_wp2
    exact ⟨_, within_results _ _ w.heap.size false rfl BA, rfl, HB⟩
end Go.Proofs.Ytagojbgmgkkdpaa.Wk
