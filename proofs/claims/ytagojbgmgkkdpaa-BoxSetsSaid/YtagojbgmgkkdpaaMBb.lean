import Derived.Test.YtagojbgmgkkdpaaMBa
import Derived.Test.YtagojbgmgkkdpaaIvC
import Derived.Shelf.Abstract
import Derived.Test.YtagojbgmgkkdpaaAw08
/- Walk: box.Within. -/
namespace Go.Proofs.Ytagojbgmgkkdpaa.Wk
open Go.RowKit Go.Shelf Go.Proofs.Pl Go.Proofs.YtagojbgmgkkdpaaW.PrintLast
set_option linter.unusedSimpArgs false
set_option linter.unusedVariables false
attribute [local go_sem] Oper.semAt_some

theorem keepsFrom_below {W W' : World} (hb : Below W.heap.size W W') (B : Nat) : KeepsFrom B W W' := ⟨hb.size, fun k o _ hk _ => (hb.block k (Array.getElem?_eq_some_iff.1 hk).1).trans hk⟩
theorem blk_own {β : Type} (g : Nat) (t : TypeId) (f : β → Array Value) : Own (fun s W => Blk W g t (f s)) := fun s X Y row hs hg hrow =>
  Blk.grown hs hg (fun e' => by obtain ⟨o, ho, hc⟩ := hrow g e'.symm; rw [show X.heap[g]? = _ from hs] at ho; cases ho; cases hc)
theorem Blk.c1 {w : World} {g : Nat} {t : TypeId} {x0 : Value} (h : Blk w g t #[x0]) : w.cell? ⟨g, 0, none⟩ = some x0 ∧ w.frozen? ⟨g, 0, none⟩ = false := ⟨h.cell 0, h.frozen 0⟩
theorem within_results (tmps : Array Value) (W : World) (r0 : Nat) (p : Bool) (h4 : tmps[4]?.getD undef = .pointer (some ⟨r0, 0, none⟩)) (hb0 : Blk W r0 4 #[.bool p]) :
    (results Try.f44 tmps).run Try.prog W = .ok (.bool p) W := by
  obtain ⟨q0, _⟩ := hb0.c1
  simp [results, Try.results44, go_sem, h4, q0]
theorem withinL_zip : ∀ (a b : List Iv), a.length = b.length → (withinL a b = true ↔ ∀ x ∈ List.zip a b, withinI x.1 x.2 = true)
  | [], [], _ => by simp [withinL]
  | x :: a, y :: b, h => by
    simp only [withinL, List.zip_cons_cons, List.mem_cons, Bool.and_eq_true, withinL_zip a b (by simpa using h)]
    constructor
    · rintro ⟨h1, h2⟩ z (rfl | hz)
      · exact h1
      · exact h2 z hz
    · intro h
      exact ⟨h (x, y) (.inl rfl), fun z hz => h z (.inr hz)⟩
set_option maxRecDepth 100000 in
set_option maxHeartbeats 4000000 in
theorem withinB_calls (A : Option Addr) (n c : Nat) (xs : List Iv) (B : Option Addr) (m d : Nat) (ys : List Iv) (w : World) (hs : SlI w w.heap.size A n xs) (ht : SlI w w.heap.size B m ys) (hn : n ≤ 1000) :
    Calls Try.prog 44 #[.slice A n c, .slice B m d] w fun e w' => e = .returned (.bool (withinB xs ys)) ∧ Below w.heap.size w w' := by
  refine (callsIn_wide (n := 4)).1 ?_
  refine callsIn_of_wp_marks Try.func44 rfl trivial ?_ rfl
  simp only [Try.ntmps44, List.size_toArray, List.length_cons, List.length_nil, Nat.reduceAdd, Nat.reduceSub, Array.replicate_succ, Array.replicate_zero, List.push_toArray, List.append_toArray, List.nil_append, List.cons_append]
  have BA := Blk.new w 4 #[.bool false]
  have HB := bl_alloc (Below.refl w.heap.size w) (.cells #[.bool false] 4)
  have HE := Lib.hid (fun W h => emptyB_calls A n c xs W h hn)
  unfold withinB
  rw [hs.1, ht.1]
  by_cases hnm : n = m
  · subst hnm
    rw [decide_eq_true rfl, Bool.true_and]
    have hq : ((n : Int) != n) = false := by simp
    cases hp : emptyB xs
    · rw [hp] at HE
      rw [Bool.false_or]
      gi_wp2_with (refine ⟨trivial, ?_⟩; first
        | (gi_at_call 40; refine (callsIn_wide.2 (HE.out _ (hs.on HB))).mono ?_; rintro e w1 ⟨rfl, hb⟩; have BA1 := BA.call hb; have HB1 := bl_trans HB hb; obtain ⟨q0, f0⟩ := BA1.c1; clear hb HE BA HB)
        | (gi_at_call 79; refine (callsIn_wide.2 (pairs_calls A n c B n d _)).mono ?_; rintro e w' ⟨rfl, rfl⟩))
      have hl1 := BA1.lt
      have BX := (Blk.new w1 41 #[.slice A n c]).alloc (.cells #[.slice B n d] 41)
      have BY := Blk.new1 w1 (.cells #[.slice A n c] 41) 41 #[.slice B n d]
      have BA2 := (BA1.alloc (.cells #[.slice A n c] 41)).alloc (.cells #[.slice B n d] 41)
      have HB2 := bl_alloc (bl_alloc HB1 (.cells #[.slice A n c] 41)) (.cells #[.slice B n d] 41)
      have hsz : ((w1.alloc (.cells #[.slice A n c] 41)).alloc (.cells #[.slice B n d] 41)).heap.size = w1.heap.size + 2 := by simp
      obtain ⟨W0, hW0⟩ : ∃ W0, (w1.alloc (.cells #[.slice A n c] 41)).alloc (.cells #[.slice B n d] 41) = W0 := ⟨_, rfl⟩
      rw [hW0] at BX BY BA2 HB2 hsz ⊢
      have hs2 := hs.below HB2
      have ht2 := ht.below HB2
      clear hW0 BA1 HB1 q0 f0 hs ht
      generalize hN : w1.heap.size = N at BX BY hsz hl1 ⊢
      clear hN
      refine wpIn_rangeFunc_ownH rfl (by omega) (gf := 113) (lb := #[.pointer (some ⟨N, 0, none⟩), .pointer (some ⟨N + 1, 0, none⟩)]) rfl trivial (enters_of Try.func113 (by kernel_rfl) rfl)
        (pairs_stops 3 (by omega) N (N + 1) w.heap.size n c d A B xs ys hn W0 BX BY (by omega) hs2 ht2) KpP.trans
        (fun W l o o' hl h1 h2 h3 => ⟨belowK_b (w := W0) (by omega) W l o o' hl h1 h2 h3, World.putObj_heap_other (by omega), World.putObj_heap_other (by omega)⟩) (Below.refl _ _) (fun _ => rfl)
        (fun pre W => ((Blk W w.heap.size 4 #[.bool false] ∧ Blk W N 41 #[.slice A n c] ∧ Blk W (N + 1) 41 #[.slice B n d]) ∧ (∀ x ∈ pre, withinI x.1 x.2 = true)) ∧ Below w.heap.size w W)
        (fun c pre W => (Blk W w.heap.size 4 #[.bool false] ∧ c = .ret ∧ ∃ x ∈ pre, withinI x.1 x.2 = false) ∧ Below w.heap.size w W)
        ?hI ?hIx ?h0
        (fun x a' W => ∃ P Q, N + 1 < P ∧ N + 1 < Q ∧ P ≠ Q ∧ (Blk W P 26 (ivCells x.1).toArray ∧ Blk W Q 26 (ivCells x.2).toArray) ∧ a' = { tmps := #[.slice A n c, .slice B n d, undef, undef, .pointer (some ⟨w.heap.size, 0, none⟩), .pointer (some ⟨P, 0, none⟩), .pointer (some ⟨Q, 0, none⟩), .bool false, .slice A n c, .int .i64 n, .slice B n d, .int .i64 n, .bool false, .bool false, .slice A n c, .bool false, .slice A n c, .slice B n d, .func (.func 113) #[] #[.pointer (some ⟨N, 0, none⟩), .pointer (some ⟨N + 1, 0, none⟩)], .agg (ivCells x.1).toArray, .agg (ivCells x.2).toArray, undef, undef, undef, undef], defers := [] })
        ?hAx ?assign ?body ?done ?stop
      case hI =>
        refine OwnFrom.and (OwnFrom.and (Own.from (fun s X Y row h hg hr => ⟨blk_own _ _ (fun _ => #[.bool false]) s X Y row h.1 hg hr, blk_own _ _ (fun _ => #[.slice A n c]) s X Y row h.2.1 hg hr, blk_own _ _ (fun _ => #[.slice B n d]) s X Y row h.2.2 hg hr⟩) _) (ownFrom_pure _ _)) (ownFrom_below (Nat.le_refl _) (by omega))
      case hIx =>
        intro c
        exact OwnFrom.and (OwnFrom.and (Own.from (fun s X Y row h hg hr => blk_own _ _ (fun _ => #[.bool false]) s X Y row h hg hr) _) (ownFrom_pure _ _)) (ownFrom_below (Nat.le_refl _) (by omega))
      case h0 => exact ⟨⟨⟨BA2, BX, BY⟩, fun x hx => by cases hx⟩, HB2⟩
      case hAx =>
        intro x a'
        rintro s X Y row ⟨P, Q, h1, h2, h3, h4, h5⟩ hg hr
        exact ⟨P, Q, h1, h2, h3, ⟨blk_own _ _ (fun _ : Unit => (ivCells x.1).toArray) s X Y row h4.1 hg (fun r e => (hr r e).2), blk_own _ _ (fun _ : Unit => (ivCells x.2).toArray) s X Y row h4.2 hg (fun r e => (hr r e).2)⟩, h5⟩
      case assign =>
        rintro l pre ⟨x, y⟩ W K ⟨⟨⟨i1, i2, i3⟩, hg⟩, hB⟩ hK
        dsimp only at hK
        have hb2 : Below W.heap.size W ((W.alloc (.cells (ivCells x).toArray 26)).alloc (.cells (ivCells y).toArray 26)) := bl_alloc (bl_alloc (Below.refl _ _) _) _
        have hNW := i3.lt
        have hK2 := hK _ _ (keepsFrom_below hb2 _) ⟨hb2.mono hB.size, hb2.block _ (by omega), hb2.block _ hNW⟩ ⟨⟨⟨i1.call hb2, i2.call hb2, i3.call hb2⟩, hg⟩, bl_trans hB hb2⟩
          ⟨W.heap.size, W.heap.size + 1, by omega, by omega, by omega, ⟨(Blk.new W _ _).alloc _, Blk.new1 W _ _ _⟩, rfl⟩
        clear hK i1 i2 i3 hg hB hb2
        dsimp only [encP, ivCells] at hK2 ⊢
        gi_wp2
        exact hK2
      case body =>
        rintro l pre ⟨x, y⟩ a' W hl ⟨r, hr⟩ ⟨⟨⟨i1, i2, i3⟩, hg⟩, hB⟩ ⟨P, Q, hP, hQ, hPQ, ⟨bP, bQ⟩, rfl⟩ hlen
        obtain ⟨x0, ⟨x1, x2, x3, x4⟩, ⟨x5, x6, x7, x8⟩⟩ := x
        obtain ⟨y0, ⟨y1, y2, y3, y4⟩, ⟨y5, y6, y7, y8⟩⟩ := y
        have HQ := Lib.hid (fun W => withinI_calls x0 x1 x2 x3 x4 x5 x6 x7 x8 y0 y1 y2 y3 y4 y5 y6 y7 y8 W)
        generalize hqq : withinI ⟨x0, ⟨x1, x2, x3, x4⟩, ⟨x5, x6, x7, x8⟩⟩ ⟨y0, ⟨y1, y2, y3, y4⟩, ⟨y5, y6, y7, y8⟩⟩ = qq at HQ
        have Hqq := Lib.hid hqq
        clear hqq
        dsimp only [ivCells] at bP bQ ⊢
        obtain ⟨⟨p0, p1, p2, p3, p4, p5, p6, p7, p8⟩, _⟩ := bP.c9
        obtain ⟨⟨t0, t1, t2, t3, t4, t5, t6, t7, t8⟩, _⟩ := bQ.c9
        have Hg := Lib.hid hg
        have hPW := bP.lt
        have hQW := bQ.lt
        clear hg
        cases qq
        · gi_wp2_with (refine ⟨trivial, ?_⟩; gi_at_call 18; refine (CallsIn.inRound l (callsIn_wide.2 (HQ.out _))).mono ?_; rintro e w2 ⟨rfl, hb⟩; have j1 := i1.call hb; obtain ⟨q1, f1⟩ := j1.c1)
          exact ⟨(keepsFrom_below hb _).trans ((KeepsOthers.setCell _ _ _).from _),
            ⟨j1.set_ 0 _, rfl, _, List.mem_append_right _ (List.mem_singleton.2 rfl), Hqq.out⟩,
            (bl_trans hB hb).setCell (p := ⟨w.heap.size, 0, none⟩) (Nat.le_refl _) _⟩
        · gi_wp2_with (refine ⟨trivial, ?_⟩; gi_at_call 18; refine (CallsIn.inRound l (callsIn_wide.2 (HQ.out _))).mono ?_; rintro e w2 ⟨rfl, hb⟩)
          exact ⟨keepsFrom_below hb _, ⟨hb.mono hB.size, hb.block _ i2.lt, hb.block _ i3.lt⟩,
            ⟨⟨i1.call hb, i2.call hb, i3.call hb⟩, fun z hz => by
              rcases List.mem_append.1 hz with h | h
              · exact Hg.out z h
              · rw [List.mem_singleton.1 h]; exact Hqq.out⟩, bl_trans hB hb⟩
      case done =>
        rintro D zs W hD rfl ⟨⟨⟨i1, i2, i3⟩, hg⟩, hB⟩ hK
        have hwl : withinL xs ys = true := (withinL_zip xs ys (by rw [hs2.1, ht2.1])).2 hg
        obtain ⟨q0, f0⟩ := i1.c1
        gi_wp2
        have hK' := (KeepsOthers.setCell W ⟨w.heap.size, 0, none⟩ (.bool true)).same D _ hK rfl
        refine ⟨by simp, .inl ⟨_, _, rfl, run_takeDeferred hK', ?_⟩⟩
        have b0 := i1.set_ 0 (.bool true)
        have hbw := hB.setCell (p := ⟨w.heap.size, 0, none⟩) (Nat.le_refl _) (.bool true)
        rw [hwl]
        exact ⟨_, within_results _ _ w.heap.size true rfl ((World.putObj_heap_other (by omega)).trans b0), rfl, hbw.trans (belowK_b (w := w) (Nat.le_refl _) _ D _ _ (by omega) hK' rfl rfl)⟩
      case stop =>
        rintro D c' pre W hD ⟨k, hk, rfl⟩ ⟨⟨i1, rfl, hbad⟩, hB⟩ hK
        have hwl : withinL xs ys = false := by
          cases h : withinL xs ys
          · rfl
          · obtain ⟨z, hz, hz2⟩ := hbad
            have := (withinL_zip xs ys (by rw [hs2.1, ht2.1])).1 h z (List.mem_of_mem_take hz)
            rw [hz2] at this
            cases this
        gi_wp2
        refine ⟨by simp, .inl ⟨_, _, rfl, run_takeDeferred hK, ?_⟩⟩
        exact ⟨_, within_results _ _ w.heap.size false rfl ((World.putObj_heap_other (by omega)).trans i1), by rw [hwl], hB.trans (belowK_b (w := w) (Nat.le_refl _) _ D _ _ (by omega) hK rfl rfl)⟩
    · rw [hp] at HE
      rw [Bool.true_or]
      gi_wp2_with (refine ⟨trivial, ?_⟩; gi_at_call 40; refine (callsIn_wide.2 (HE.out _ (hs.on HB))).mono ?_; rintro e w1 ⟨rfl, hb⟩; have BA1 := BA.call hb; have HB1 := bl_trans HB hb; obtain ⟨q0, f0⟩ := BA1.c1; clear hb HE BA HB)
      exact ⟨_, within_results _ _ w.heap.size true rfl (BA1.set_ 0 _), rfl, bl_set HB1 (p := ⟨w.heap.size, 0, none⟩) (Nat.le_refl _) _⟩
  · have hq : ((n : Int) != m) = true := by simp; omega
    rw [decide_eq_false hnm, Bool.false_and]
    obtain ⟨q0, f0⟩ := BA.c1
    gi_wp2
    exact ⟨_, within_results _ _ w.heap.size false rfl BA, rfl, HB⟩
end Go.Proofs.Ytagojbgmgkkdpaa.Wk


/- Walks: box.Meet, box.Hull. -/
namespace Go.Proofs.Ytagojbgmgkkdpaa.Wk
open Go.RowKit Go.Shelf Go.Proofs.Pl Go.Proofs.YtagojbgmgkkdpaaW.PrintLast
set_option linter.unusedSimpArgs false
set_option linter.unusedVariables false
attribute [local go_sem] Oper.semAt_some

theorem stepIn_appI {F : Fence} {m : Nat} {ops : Array Oper} {o : Oper} {a : Act} {K : Act → World → Prop} {Q : Exit → Act → World → Prop} {w : World} {E : Prop} (hgd : o.guard = none) (s x : Operand) (ho : o.op = .call { callee := .builtin .append, args := #[s, x], argTypes := #[41, 41] }) (base : Nat) (v : Value) (xs : List Iv) (hs : a.eval s = v) (hown : OwnI w base v xs) (B : Nat) (A : Addr) (k c : Nat) (ys : List Iv) (hx : a.eval x = .slice (some A) k c) (hys : SlI w B (some A) k ys) (hsm : xs.length + k ≤ 1000000) (hbase : base ≤ w.heap.size)
    (h : ∀ v' w', OwnI w' base v' (xs ++ ys) → w.grownBy w' v.ownBlock → (v'.ownBlock = v.ownBlock ∨ v'.ownBlock = some w.heap.size) → K (a.put o.dst v') w') : if Region.wanted o (yielded ops a.tmps) = true then Oper.wpIn F m Try.prog o a w K Q else E := by
  have hw : Region.wanted o (yielded ops a.tmps) = true := by simp [Region.wanted, hgd]
  rw [if_pos hw]
  obtain ⟨v', w', hr, h1, h2, h3⟩ := run_appI base v xs hown o.type B A k c ys hys hsm hbase
  unfold Oper.wpIn
  refine ⟨?_, ?_⟩
  · simp [Oper.about, ho, resolve, Target.leads, Sem.run_pure]
  · rw [Oper.semAt_plain F _ _ (by rw [ho]; intro c hc'; cases hc')]
    simp [execOp, ho, resolve, invoke, builtin, hs, hx, hr, Result.andThen]
    exact h v' w' h1 h2 h3
theorem ownI_own (base : Nat) (v : Value) (xs : List Iv) {X Y : World} {row : Option Nat} (hs : OwnI X base v xs) (hg : X.grownBy Y row) (hrow : ∀ r, row = some r → ∃ o : Obj, X.heap[r]? = some o ∧ o.isCells = false) : OwnI Y base v xs := by
  refine ⟨hs.1, ?_⟩
  rcases hs.2 with h | ⟨g, cap, cur, rfl, h1, h2, h3⟩
  · exact .inl h
  · refine .inr ⟨g, cap, cur, rfl, h1, (hg.block g ?_ ?_).trans h2, h3⟩
    · rcases Nat.lt_or_ge g X.heap.size with h | h
      · exact h
      · rw [Array.getElem?_eq_none h] at h2; cases h2
    · intro e
      obtain ⟨o, ho, hc⟩ := hrow g e.symm
      rw [ho] at h2
      cases h2
      cases hc
theorem OwnI.cells {w : World} {base g : Nat} {v : Value} {xs : List Iv} (h : OwnI w base v xs) (hg : v.ownBlock = some g) : ∃ cur, Blk w g 26 cur := by
  rcases h.2 with ⟨rfl, hn⟩ | ⟨g', cap, cur, rfl, hb, hgg, rest⟩
  · cases hg
  · cases hg
    exact ⟨cur, hgg⟩
theorem keepsFrom_grown {X Y : World} {row : Option Nat} (hg : X.grownBy Y row) (hr : ∀ g, row = some g → ∃ t cs, Blk X g t cs) (B : Nat) : KeepsFrom B X Y :=
  ⟨hg.size, fun k o _ hk ho => by
    refine (hg.block k ?_ ?_).trans hk
    · rcases Nat.lt_or_ge k X.heap.size with h | h
      · exact h
      · rw [Array.getElem?_eq_none h] at hk; cases hk
    · intro e
      obtain ⟨t, cs, hb⟩ := hr k e.symm
      rw [show X.heap[k]? = _ from hb] at hk
      cases hk
      cases ho⟩
/-- a round that appends one interval to the list in the box -/
theorem app_round {w W w2 w3 : World} {N B' : Nat} (hN2 : w.heap.size < N) {v v3 : Value} {L : List Iv} {r : Iv} {cA cB : Array Value} {o o2 : Obj} (hB : Below w.heap.size w W)
    (i1 : Blk W w.heap.size 41 #[v]) (i2 : OwnI W w.heap.size v L) (i3 : ∀ k, v.ownBlock = some k → N + 1 < k) (i4 : Blk W N 41 cA) (i5 : Blk W (N + 1) 41 cB)
    (hb : Below (W.alloc o).drew.heap.size (W.alloc o).drew w2) (O3 : OwnI w3 w.heap.size v3 (L ++ [r])) (hg3 : (w2.alloc o2).grownBy w3 v.ownBlock) (hat : v3.ownBlock = v.ownBlock ∨ v3.ownBlock = some (w2.alloc o2).heap.size) :
    KeepsFrom B' W (w3.setCell ⟨w.heap.size, 0, none⟩ v3) ∧ KpP w.heap.size N (N + 1) W (w3.setCell ⟨w.heap.size, 0, none⟩ v3) ∧
      ((∃ v', Blk (w3.setCell ⟨w.heap.size, 0, none⟩ v3) w.heap.size 41 #[v'] ∧ OwnI (w3.setCell ⟨w.heap.size, 0, none⟩ v3) w.heap.size v' (L ++ [r]) ∧ (∀ k, v'.ownBlock = some k → N + 1 < k) ∧ Blk (w3.setCell ⟨w.heap.size, 0, none⟩ v3) N 41 cA ∧ Blk (w3.setCell ⟨w.heap.size, 0, none⟩ v3) (N + 1) 41 cB) ∧ Below w.heap.size w (w3.setCell ⟨w.heap.size, 0, none⟩ v3)) := by
  have l5 := i5.lt
  have hX : Below W.heap.size W (W.alloc o).drew := bl_drew (bl_alloc (Below.refl _ _) o)
  have h2 : Below W.heap.size W (w2.alloc o2) := bl_alloc (bl_trans hX hb) o2
  have hz := h2.size
  have kk : ∀ k, k < W.heap.size → some k ≠ v.ownBlock → w3.heap[k]? = W.heap[k]? := fun k hk hne => (hg3.block k (by omega) hne).trans (h2.block k hk)
  have nL : some w.heap.size ≠ v.ownBlock := fun e => by have := i3 _ e.symm; omega
  have nA : some N ≠ v.ownBlock := fun e => by have := i3 _ e.symm; omega
  have nB : some (N + 1) ≠ v.ownBlock := fun e => by have := i3 _ e.symm; omega
  have j1 : Blk w3 w.heap.size 41 #[v] := (kk _ (by omega) nL).trans i1
  have j4 : Blk w3 N 41 cA := (kk _ (by omega) nA).trans i4
  have j5 : Blk w3 (N + 1) 41 cB := (kk _ l5 nB).trans i5
  have k4 := j4.far (p := ⟨w.heap.size, 0, none⟩) (by show N ≠ w.heap.size; omega) v3
  have k5 := j5.far (p := ⟨w.heap.size, 0, none⟩) (by show N + 1 ≠ w.heap.size; omega) v3
  have b3 : Below w.heap.size W w3 := (h2.mono hB.size).grown hg3 (Nat.le_trans hB.size hz) (fun k hk => (i2.lt k hk).1)
  have b4 : Below w.heap.size W (w3.setCell ⟨w.heap.size, 0, none⟩ v3) := b3.setCell (p := ⟨w.heap.size, 0, none⟩) (Nat.le_refl _) v3
  have n3 : ∀ k, v3.ownBlock = some k → N + 1 < k := fun k hk => by
    rcases hat with h | h
    · exact i3 k (h ▸ hk)
    · rw [h] at hk
      cases hk
      omega
  refine ⟨?_, ⟨b4, Eq.trans (show _ = some _ from k4) (show _ = some _ from i4).symm, Eq.trans (show _ = some _ from k5) (show _ = some _ from i5).symm⟩, ⟨v3, j1.set_ 0 v3, ?_, n3, k4, k5⟩, hB.trans b4⟩
  · refine ((keepsFrom_below h2 _).trans (keepsFrom_grown hg3 (fun g hg => ?_) _)).trans ((KeepsOthers.setCell _ _ _).from _)
    obtain ⟨cur, hc⟩ := i2.cells hg
    exact ⟨_, cur, hc.call h2⟩
  · refine O3.same fun k hk => Below.heap_setCell w3 ⟨w.heap.size, 0, none⟩ v3 k ?_
    have := n3 k hk
    show k ≠ w.heap.size
    omega
theorem OwnI.base {w : World} {b b' : Nat} {v : Value} {xs : List Iv} (h : OwnI w b v xs) (hb : b' ≤ b) : OwnI w b' v xs := ⟨h.1, h.2.imp id (fun ⟨g, cap, cur, h1, h2, h3⟩ => ⟨g, cap, cur, h1, Nat.le_trans hb h2, h3⟩)⟩
theorem OwnI.form {w : World} {base : Nat} {v : Value} {xs : List Iv} (h : OwnI w base v xs) : ∃ A n c, v = .slice A n c := by
  obtain ⟨A, c, e, _⟩ := h.sl
  exact ⟨A, _, c, e⟩
theorem zip_map (f : Iv → Iv → Iv) : ∀ (a b : List Iv), (List.zip a b).map (fun x => f x.1 x.2) = List.zipWith f a b
  | [], _ => by simp
  | _ :: _, [] => by simp
  | x :: a, y :: b => by simp [zip_map f a b]
set_option maxRecDepth 100000 in
set_option maxHeartbeats 8000000 in
theorem meetB_calls (A : Option Addr) (n c : Nat) (xs : List Iv) (B : Option Addr) (m d : Nat) (ys : List Iv) (w : World) (hs : SlI w w.heap.size A n xs) (ht : SlI w w.heap.size B m ys) (hn : n ≤ 1000) :
    Calls Try.prog 34 #[.slice A n c, .slice B m d] w fun e w' => ∃ v, e = .returned v ∧ OwnI w' w.heap.size v (meetB xs ys) ∧ Below w.heap.size w w' := by
  refine (callsIn_wide (n := 4)).1 ?_
  refine callsIn_of_wp_marks Try.func34 rfl trivial ?_ rfl
  simp only [Try.ntmps34, List.size_toArray, List.length_cons, List.length_nil, Nat.reduceAdd, Nat.reduceSub, Array.replicate_succ, Array.replicate_zero, List.push_toArray, List.append_toArray, List.nil_append, List.cons_append]
  unfold meetB
  rw [hs.1, ht.1]
  by_cases hnm : n = m
  · subst hnm
    rw [if_pos rfl]
    have hq : ((n : Int) != n) = false := by simp
    gi_wp2_with (refine ⟨trivial, ?_⟩; gi_at_call 79; refine (callsIn_wide.2 (pairs_calls A n c B n d _)).mono ?_; rintro e w' ⟨rfl, rfl⟩)
    have BL := ((Blk.new w 41 #[.slice none 0 0]).alloc (.cells #[.slice A n c] 41)).alloc (.cells #[.slice B n d] 41)
    have BX := (Blk.new1 w (.cells #[.slice none 0 0] 41) 41 #[.slice A n c]).alloc (.cells #[.slice B n d] 41)
    have BY := Blk.new2 w (.cells #[.slice none 0 0] 41) (.cells #[.slice A n c] 41) 41 #[.slice B n d]
    have HB2 := bl_alloc (bl_alloc (bl_alloc (Below.refl w.heap.size w) (.cells #[.slice none 0 0] 41)) (.cells #[.slice A n c] 41)) (.cells #[.slice B n d] 41)
    obtain ⟨W0, hW0⟩ : ∃ W0, ((w.alloc (.cells #[.slice none 0 0] 41)).alloc (.cells #[.slice A n c] 41)).alloc (.cells #[.slice B n d] 41) = W0 := ⟨_, rfl⟩
    have hsz : W0.heap.size = w.heap.size + 3 := by rw [← hW0]; simp
    rw [hW0] at BL BX BY HB2 ⊢
    have hs2 := hs.below HB2
    have ht2 := ht.below HB2
    have hlen : xs.length = ys.length := by rw [hs.1, ht.1]
    have hxl := hs.1
    clear hW0 hs ht
    obtain ⟨N, hN⟩ : ∃ N, N = w.heap.size + 1 := ⟨_, rfl⟩
    have BY' : Blk W0 (N + 1) 41 #[.slice B n d] := by rw [hN]; exact BY
    have BX' : Blk W0 N 41 #[.slice A n c] := by rw [hN]; exact BX
    rw [← hN]
    have hN1 : N + 1 < W0.heap.size := by omega
    have hN2 : w.heap.size < N := by omega
    clear BX BY hN hsz
    refine wpIn_rangeFunc_ownH rfl (by omega) (gf := 113) (lb := #[.pointer (some ⟨N, 0, none⟩), .pointer (some ⟨N + 1, 0, none⟩)]) rfl trivial (enters_of Try.func113 (by kernel_rfl) rfl)
      (pairs_stops 3 (by omega) N (N + 1) w.heap.size n c d A B xs ys hn W0 BX' BY' (by omega) hs2 ht2) KpP.trans
      (fun W l o o' hl h1 h2 h3 => ⟨belowK_b (w := W0) (by omega) W l o o' hl h1 h2 h3, World.putObj_heap_other (by omega), World.putObj_heap_other (by omega)⟩) (Below.refl _ _) (fun _ => rfl)
      (fun pre W => (∃ v, Blk W w.heap.size 41 #[v] ∧ OwnI W w.heap.size v (pre.map fun x => meet2 x.1 x.2) ∧ (∀ k, v.ownBlock = some k → N + 1 < k) ∧ Blk W N 41 #[.slice A n c] ∧ Blk W (N + 1) 41 #[.slice B n d]) ∧ Below w.heap.size w W)
      (fun c pre W => False ∧ Below w.heap.size w W)
      ?hI ?hIx ?h0
      (fun x a' W => ∃ P Q, N + 1 < P ∧ N + 1 < Q ∧ P ≠ Q ∧ (Blk W P 26 (ivCells x.1).toArray ∧ Blk W Q 26 (ivCells x.2).toArray) ∧ a' = { tmps := #[.slice A n c, .slice B n d, undef, undef, .slice none 0 0, .pointer (some ⟨w.heap.size, 0, none⟩), .pointer (some ⟨P, 0, none⟩), .pointer (some ⟨Q, 0, none⟩), .slice A n c, .int .i64 n, .slice B n d, .int .i64 n, .bool false, .slice A n c, .slice B n d, .func (.func 113) #[] #[.pointer (some ⟨N, 0, none⟩), .pointer (some ⟨N + 1, 0, none⟩)], .agg (ivCells x.1).toArray, .agg (ivCells x.2).toArray, undef, undef, undef, undef, undef, undef, undef, undef, undef], defers := [] })
      ?hAx ?assign ?body ?done ?stop
    case hI =>
      refine OwnFrom.and ?_ (ownFrom_below (Nat.le_refl _) (by omega))
      rintro s X Y row ⟨v, h1, h2, h3, h4, h5⟩ hg hr
      exact ⟨v, blk_own _ _ (fun _ : Unit => #[v]) () X Y row h1 hg (fun r e => (hr r e).2), ownI_own _ _ _ h2 hg (fun r e => (hr r e).2), h3, blk_own _ _ (fun _ : Unit => #[.slice A n c]) () X Y row h4 hg (fun r e => (hr r e).2), blk_own _ _ (fun _ : Unit => #[.slice B n d]) () X Y row h5 hg (fun r e => (hr r e).2)⟩
    case hIx =>
      intro c
      exact OwnFrom.and (ownFrom_pure _ _) (ownFrom_below (Nat.le_refl _) (by omega))
    case h0 => exact ⟨⟨_, BL, OwnI.nil _ _, (fun k hk => by cases hk), BX', BY'⟩, HB2⟩
    case hAx =>
      intro x a'
      rintro s X Y row ⟨P, Q, h1, h2, h3, h4, h5⟩ hg hr
      exact ⟨P, Q, h1, h2, h3, ⟨blk_own _ _ (fun _ : Unit => (ivCells x.1).toArray) s X Y row h4.1 hg (fun r e => (hr r e).2), blk_own _ _ (fun _ : Unit => (ivCells x.2).toArray) s X Y row h4.2 hg (fun r e => (hr r e).2)⟩, h5⟩
    case assign =>
      rintro l pre ⟨x, y⟩ W K ⟨⟨v, i1, i2, i3, i4, i5⟩, hB⟩ hK
      dsimp only at hK
      have hb2 : Below W.heap.size W ((W.alloc (.cells (ivCells x).toArray 26)).alloc (.cells (ivCells y).toArray 26)) := bl_alloc (bl_alloc (Below.refl _ _) _) _
      have hNW := i5.lt
      have hK2 := hK _ _ (keepsFrom_below hb2 _) ⟨hb2.mono hB.size, hb2.block _ (by omega), hb2.block _ hNW⟩ ⟨⟨v, i1.call hb2, i2.call hb2, i3, i4.call hb2, i5.call hb2⟩, bl_trans hB hb2⟩
        ⟨W.heap.size, W.heap.size + 1, by omega, by omega, by omega, ⟨(Blk.new W _ _).alloc _, Blk.new1 W _ _ _⟩, rfl⟩
      clear hK i1 i2 i3 i4 i5 hB hb2
      dsimp only [encP, ivCells] at hK2 ⊢
      gi_wp2
      exact hK2
    case body =>
      rintro l pre ⟨x, y⟩ a' W hl ⟨r, hr⟩ ⟨⟨v, i1, i2, i3, i4, i5⟩, hB⟩ ⟨P, Q, hP, hQ, hPQ, ⟨bP, bQ⟩, rfl⟩ hlenp
      obtain ⟨x0, ⟨x1, x2, x3, x4⟩, ⟨x5, x6, x7, x8⟩⟩ := x
      obtain ⟨y0, ⟨y1, y2, y3, y4⟩, ⟨y5, y6, y7, y8⟩⟩ := y
      have HM := Lib.hid (fun A W (h : SlI W W.heap.size A 2 [⟨x0, ⟨x1, x2, x3, x4⟩, ⟨x5, x6, x7, x8⟩⟩, ⟨y0, ⟨y1, y2, y3, y4⟩, ⟨y5, y6, y7, y8⟩⟩]) => meetI_calls A 2 2 _ W h (by omega))
      have Hsn := Lib.hid (show (pre ++ [((⟨x0, ⟨x1, x2, x3, x4⟩, ⟨x5, x6, x7, x8⟩⟩ : Iv), (⟨y0, ⟨y1, y2, y3, y4⟩, ⟨y5, y6, y7, y8⟩⟩ : Iv))]).map (fun z : Iv × Iv => meet2 z.1 z.2) = pre.map (fun z : Iv × Iv => meet2 z.1 z.2) ++ [meetI [⟨x0, ⟨x1, x2, x3, x4⟩, ⟨x5, x6, x7, x8⟩⟩, ⟨y0, ⟨y1, y2, y3, y4⟩, ⟨y5, y6, y7, y8⟩⟩]] by simp [meet2])
      generalize meetI [⟨x0, ⟨x1, x2, x3, x4⟩, ⟨x5, x6, x7, x8⟩⟩, ⟨y0, ⟨y1, y2, y3, y4⟩, ⟨y5, y6, y7, y8⟩⟩] = r at HM Hsn
      have hpl : (pre.map fun z : Iv × Iv => meet2 z.1 z.2).length < n := by rw [List.length_map]; exact hlenp
      generalize hL : (pre.map fun z : Iv × Iv => meet2 z.1 z.2) = L at i2 hpl Hsn
      clear hL
      obtain ⟨r0, ⟨r1, r2, r3, r4⟩, ⟨r5, r6, r7, r8⟩⟩ := r
      dsimp only [ivCells] at bP bQ HM ⊢
      have z1 := i1.drew
      have zP := bP.drew
      have zQ := bQ.drew
      obtain ⟨p0, pf0⟩ := z1.c1
      obtain ⟨p0', pf0'⟩ := i1.c1
      obtain ⟨⟨q0, q1, q2, q3, q4, q5, q6, q7, q8⟩, _⟩ := zP.c9
      obtain ⟨⟨t0, t1, t2, t3, t4, t5, t6, t7, t8⟩, _⟩ := zQ.c9
      have hPW := bP.lt
      have hQW := bQ.lt
      have hLW := i1.lt
      have I2 := Lib.hid i2
      have I3 := Lib.hid i3
      clear i2 i3
      gi_wp2_with fail
      have I1 := Lib.hid i1
      clear i1
      refine wpIn_region_any (by kernel_rfl) ?_
      change wpAnyIn _ _ _ _ _ _ _ _ _ (World.drew _)
      refine wpAnyIn_ready (rs := [0, 1, 2]) (by kernel_rfl) (by simp) ?_
      refine AllReadyIn.cons rfl (fun K hK => ?_) ?_
      · skip
        go_simp
        refine hK _ _ ?_
        clear hK K
        refine wpAnyIn_ready (rs := [1, 2]) (by kernel_rfl) (by simp) ?_
        refine AllReadyIn.cons rfl (fun K hK => ?_) ?_
        · skip
          go_simp
          refine hK _ _ ?_
          clear hK K
          refine wpAnyIn_ready (rs := [2]) (by kernel_rfl) (by simp) ?_
          refine AllReadyIn.cons rfl (fun K hK => ?_) ?_
          · skip
            go_simp
            refine hK _ _ ?_
            clear hK K
            refine wpAnyIn_ready (rs := [3]) (by kernel_rfl) (by simp) ?_
            refine AllReadyIn.cons rfl (fun K hK => ?_) ?_
            · skip
              go_simp
              refine hK _ _ ?_
              clear hK K
              refine wpAnyIn_ready (rs := [4]) (by kernel_rfl) (by simp) ?_
              refine AllReadyIn.cons rfl (fun K hK => ?_) ?_
              · skip
                go_simp
                refine ⟨trivial, ?_⟩
                refine (CallsIn.inRound l (callsIn_wide.2 (HM.out _ _ (SlI.lit2 (x := ⟨x0, ⟨x1, x2, x3, x4⟩, ⟨x5, x6, x7, x8⟩⟩) (y := ⟨y0, ⟨y1, y2, y3, y4⟩, ⟨y5, y6, y7, y8⟩⟩) (Blk.new W _ _).drew (by simp))))).mono ?_
                rintro e w2 ⟨rfl, hb⟩
                refine hK _ _ ?_
                clear hK K
                have j1 := ((I1.out.alloc (.cells #[.bool x0, .int .i64 x1, .bool x2, .int .u64 x3, .int .i64 x4, .int .i64 x5, .bool x6, .int .u64 x7, .int .i64 x8, .bool y0, .int .i64 y1, .bool y2, .int .u64 y3, .int .i64 y4, .int .i64 y5, .bool y6, .int .u64 y7, .int .i64 y8] 26)).drew).call hb
                obtain ⟨g0, gf0⟩ := j1.c1
                have J1 := Lib.hid j1
                have J2 := Lib.hid (((I2.out.alloc (.cells #[.bool x0, .int .i64 x1, .bool x2, .int .u64 x3, .int .i64 x4, .int .i64 x5, .bool x6, .int .u64 x7, .int .i64 x8, .bool y0, .int .i64 y1, .bool y2, .int .u64 y3, .int .i64 y4, .int .i64 y5, .bool y6, .int .u64 y7, .int .i64 y8] 26)).drew).call hb)
                have hLw := j1.lt
                have Hb := Lib.hid hb
                clear hb j1
                refine wpAnyIn_ready (rs := [5]) (by kernel_rfl) (by simp) ?_
                refine AllReadyIn.cons rfl (fun K hK => ?_) ?_
                · skip
                  go_simp
                  refine hK _ _ ?_
                  clear hK K
                  refine wpAnyIn_ready (rs := [6]) (by kernel_rfl) (by simp) ?_
                  refine AllReadyIn.cons rfl (fun K hK => ?_) ?_
                  · skip
                    refine stepIn_appI (by rfl) (.tmp 18) (.tmp 23) (by rfl) w.heap.size v L (by rfl) (J2.out.alloc (.cells #[.bool r0, .int .i64 r1, .bool r2, .int .u64 r3, .int .i64 r4, .int .i64 r5, .bool r6, .int .u64 r7, .int .i64 r8] 26)) (w2.heap.size + 1) ⟨w2.heap.size, 0, none⟩ 1 1 [⟨r0, ⟨r1, r2, r3, r4⟩, ⟨r5, r6, r7, r8⟩⟩] (by rfl) (SlI.lit1 (Blk.new w2 _ _) (by omega)) (by omega) (by simp; omega) ?_
                    intro v3 w3 O3 hg3 hat3
                    obtain ⟨A3, n3, c3, rfl⟩ := O3.form
                    refine hK _ _ ?_
                    clear hK K
                    have k1 := (J1.out.alloc (.cells #[.bool r0, .int .i64 r1, .bool r2, .int .u64 r3, .int .i64 r4, .int .i64 r5, .bool r6, .int .u64 r7, .int .i64 r8] 26)).grown hg3 (fun e => by have := I3.out _ e.symm; omega)
                    obtain ⟨h0, hf0⟩ := k1.c1
                    have K1 := Lib.hid k1
                    have O3' := Lib.hid O3
                    have Hg3 := Lib.hid hg3
                    have Hat := Lib.hid hat3
                    clear O3 hg3 hat3 k1
                    refine wpAnyIn_ready (rs := [7]) (by kernel_rfl) (by simp) ?_
                    refine AllReadyIn.cons rfl (fun K hK => ?_) ?_
                    · skip
                      go_simp
                      refine hK _ _ ?_
                      clear hK K
                      refine wpAnyIn_done (by kernel_rfl) ?_ _
                      have FIN := app_round (B' := W0.heap.size) hN2 hB I1.out I2.out I3.out i4 i5 Hb.out O3'.out Hg3.out Hat.out
                      rw [← Hsn.out] at FIN
                      gi_wp2
                      exact FIN
                    exact AllReadyIn.nil
                  exact AllReadyIn.nil
                exact AllReadyIn.nil
              exact AllReadyIn.nil
            exact AllReadyIn.nil
          exact AllReadyIn.nil
        refine AllReadyIn.cons rfl (fun K hK => ?_) ?_
        · skip
          go_simp
          refine hK _ _ ?_
          clear hK K
          refine wpAnyIn_ready (rs := [1]) (by kernel_rfl) (by simp) ?_
          refine AllReadyIn.cons rfl (fun K hK => ?_) ?_
          · skip
            go_simp
            refine hK _ _ ?_
            clear hK K
            refine wpAnyIn_ready (rs := [3]) (by kernel_rfl) (by simp) ?_
            refine AllReadyIn.cons rfl (fun K hK => ?_) ?_
            · skip
              go_simp
              refine hK _ _ ?_
              clear hK K
              refine wpAnyIn_ready (rs := [4]) (by kernel_rfl) (by simp) ?_
              refine AllReadyIn.cons rfl (fun K hK => ?_) ?_
              · skip
                go_simp
                refine ⟨trivial, ?_⟩
                refine (CallsIn.inRound l (callsIn_wide.2 (HM.out _ _ (SlI.lit2 (x := ⟨x0, ⟨x1, x2, x3, x4⟩, ⟨x5, x6, x7, x8⟩⟩) (y := ⟨y0, ⟨y1, y2, y3, y4⟩, ⟨y5, y6, y7, y8⟩⟩) (Blk.new W _ _).drew (by simp))))).mono ?_
                rintro e w2 ⟨rfl, hb⟩
                refine hK _ _ ?_
                clear hK K
                have j1 := ((I1.out.alloc (.cells #[.bool x0, .int .i64 x1, .bool x2, .int .u64 x3, .int .i64 x4, .int .i64 x5, .bool x6, .int .u64 x7, .int .i64 x8, .bool y0, .int .i64 y1, .bool y2, .int .u64 y3, .int .i64 y4, .int .i64 y5, .bool y6, .int .u64 y7, .int .i64 y8] 26)).drew).call hb
                obtain ⟨g0, gf0⟩ := j1.c1
                have J1 := Lib.hid j1
                have J2 := Lib.hid (((I2.out.alloc (.cells #[.bool x0, .int .i64 x1, .bool x2, .int .u64 x3, .int .i64 x4, .int .i64 x5, .bool x6, .int .u64 x7, .int .i64 x8, .bool y0, .int .i64 y1, .bool y2, .int .u64 y3, .int .i64 y4, .int .i64 y5, .bool y6, .int .u64 y7, .int .i64 y8] 26)).drew).call hb)
                have hLw := j1.lt
                have Hb := Lib.hid hb
                clear hb j1
                refine wpAnyIn_ready (rs := [5]) (by kernel_rfl) (by simp) ?_
                refine AllReadyIn.cons rfl (fun K hK => ?_) ?_
                · skip
                  go_simp
                  refine hK _ _ ?_
                  clear hK K
                  refine wpAnyIn_ready (rs := [6]) (by kernel_rfl) (by simp) ?_
                  refine AllReadyIn.cons rfl (fun K hK => ?_) ?_
                  · skip
                    refine stepIn_appI (by rfl) (.tmp 18) (.tmp 23) (by rfl) w.heap.size v L (by rfl) (J2.out.alloc (.cells #[.bool r0, .int .i64 r1, .bool r2, .int .u64 r3, .int .i64 r4, .int .i64 r5, .bool r6, .int .u64 r7, .int .i64 r8] 26)) (w2.heap.size + 1) ⟨w2.heap.size, 0, none⟩ 1 1 [⟨r0, ⟨r1, r2, r3, r4⟩, ⟨r5, r6, r7, r8⟩⟩] (by rfl) (SlI.lit1 (Blk.new w2 _ _) (by omega)) (by omega) (by simp; omega) ?_
                    intro v3 w3 O3 hg3 hat3
                    obtain ⟨A3, n3, c3, rfl⟩ := O3.form
                    refine hK _ _ ?_
                    clear hK K
                    have k1 := (J1.out.alloc (.cells #[.bool r0, .int .i64 r1, .bool r2, .int .u64 r3, .int .i64 r4, .int .i64 r5, .bool r6, .int .u64 r7, .int .i64 r8] 26)).grown hg3 (fun e => by have := I3.out _ e.symm; omega)
                    obtain ⟨h0, hf0⟩ := k1.c1
                    have K1 := Lib.hid k1
                    have O3' := Lib.hid O3
                    have Hg3 := Lib.hid hg3
                    have Hat := Lib.hid hat3
                    clear O3 hg3 hat3 k1
                    refine wpAnyIn_ready (rs := [7]) (by kernel_rfl) (by simp) ?_
                    refine AllReadyIn.cons rfl (fun K hK => ?_) ?_
                    · skip
                      go_simp
                      refine hK _ _ ?_
                      clear hK K
                      refine wpAnyIn_done (by kernel_rfl) ?_ _
                      have FIN := app_round (B' := W0.heap.size) hN2 hB I1.out I2.out I3.out i4 i5 Hb.out O3'.out Hg3.out Hat.out
                      rw [← Hsn.out] at FIN
                      gi_wp2
                      exact FIN
                    exact AllReadyIn.nil
                  exact AllReadyIn.nil
                exact AllReadyIn.nil
              exact AllReadyIn.nil
            exact AllReadyIn.nil
          exact AllReadyIn.nil
        exact AllReadyIn.nil
      refine AllReadyIn.cons rfl (fun K hK => ?_) ?_
      · skip
        go_simp
        refine hK _ _ ?_
        clear hK K
        refine wpAnyIn_ready (rs := [0, 2]) (by kernel_rfl) (by simp) ?_
        refine AllReadyIn.cons rfl (fun K hK => ?_) ?_
        · skip
          go_simp
          refine hK _ _ ?_
          clear hK K
          refine wpAnyIn_ready (rs := [2]) (by kernel_rfl) (by simp) ?_
          refine AllReadyIn.cons rfl (fun K hK => ?_) ?_
          · skip
            go_simp
            refine hK _ _ ?_
            clear hK K
            refine wpAnyIn_ready (rs := [3]) (by kernel_rfl) (by simp) ?_
            refine AllReadyIn.cons rfl (fun K hK => ?_) ?_
            · skip
              go_simp
              refine hK _ _ ?_
              clear hK K
              refine wpAnyIn_ready (rs := [4]) (by kernel_rfl) (by simp) ?_
              refine AllReadyIn.cons rfl (fun K hK => ?_) ?_
              · skip
                go_simp
                refine ⟨trivial, ?_⟩
                refine (CallsIn.inRound l (callsIn_wide.2 (HM.out _ _ (SlI.lit2 (x := ⟨x0, ⟨x1, x2, x3, x4⟩, ⟨x5, x6, x7, x8⟩⟩) (y := ⟨y0, ⟨y1, y2, y3, y4⟩, ⟨y5, y6, y7, y8⟩⟩) (Blk.new W _ _).drew (by simp))))).mono ?_
                rintro e w2 ⟨rfl, hb⟩
                refine hK _ _ ?_
                clear hK K
                have j1 := ((I1.out.alloc (.cells #[.bool x0, .int .i64 x1, .bool x2, .int .u64 x3, .int .i64 x4, .int .i64 x5, .bool x6, .int .u64 x7, .int .i64 x8, .bool y0, .int .i64 y1, .bool y2, .int .u64 y3, .int .i64 y4, .int .i64 y5, .bool y6, .int .u64 y7, .int .i64 y8] 26)).drew).call hb
                obtain ⟨g0, gf0⟩ := j1.c1
                have J1 := Lib.hid j1
                have J2 := Lib.hid (((I2.out.alloc (.cells #[.bool x0, .int .i64 x1, .bool x2, .int .u64 x3, .int .i64 x4, .int .i64 x5, .bool x6, .int .u64 x7, .int .i64 x8, .bool y0, .int .i64 y1, .bool y2, .int .u64 y3, .int .i64 y4, .int .i64 y5, .bool y6, .int .u64 y7, .int .i64 y8] 26)).drew).call hb)
                have hLw := j1.lt
                have Hb := Lib.hid hb
                clear hb j1
                refine wpAnyIn_ready (rs := [5]) (by kernel_rfl) (by simp) ?_
                refine AllReadyIn.cons rfl (fun K hK => ?_) ?_
                · skip
                  go_simp
                  refine hK _ _ ?_
                  clear hK K
                  refine wpAnyIn_ready (rs := [6]) (by kernel_rfl) (by simp) ?_
                  refine AllReadyIn.cons rfl (fun K hK => ?_) ?_
                  · skip
                    refine stepIn_appI (by rfl) (.tmp 18) (.tmp 23) (by rfl) w.heap.size v L (by rfl) (J2.out.alloc (.cells #[.bool r0, .int .i64 r1, .bool r2, .int .u64 r3, .int .i64 r4, .int .i64 r5, .bool r6, .int .u64 r7, .int .i64 r8] 26)) (w2.heap.size + 1) ⟨w2.heap.size, 0, none⟩ 1 1 [⟨r0, ⟨r1, r2, r3, r4⟩, ⟨r5, r6, r7, r8⟩⟩] (by rfl) (SlI.lit1 (Blk.new w2 _ _) (by omega)) (by omega) (by simp; omega) ?_
                    intro v3 w3 O3 hg3 hat3
                    obtain ⟨A3, n3, c3, rfl⟩ := O3.form
                    refine hK _ _ ?_
                    clear hK K
                    have k1 := (J1.out.alloc (.cells #[.bool r0, .int .i64 r1, .bool r2, .int .u64 r3, .int .i64 r4, .int .i64 r5, .bool r6, .int .u64 r7, .int .i64 r8] 26)).grown hg3 (fun e => by have := I3.out _ e.symm; omega)
                    obtain ⟨h0, hf0⟩ := k1.c1
                    have K1 := Lib.hid k1
                    have O3' := Lib.hid O3
                    have Hg3 := Lib.hid hg3
                    have Hat := Lib.hid hat3
                    clear O3 hg3 hat3 k1
                    refine wpAnyIn_ready (rs := [7]) (by kernel_rfl) (by simp) ?_
                    refine AllReadyIn.cons rfl (fun K hK => ?_) ?_
                    · skip
                      go_simp
                      refine hK _ _ ?_
                      clear hK K
                      refine wpAnyIn_done (by kernel_rfl) ?_ _
                      have FIN := app_round (B' := W0.heap.size) hN2 hB I1.out I2.out I3.out i4 i5 Hb.out O3'.out Hg3.out Hat.out
                      rw [← Hsn.out] at FIN
                      gi_wp2
                      exact FIN
                    exact AllReadyIn.nil
                  exact AllReadyIn.nil
                exact AllReadyIn.nil
              exact AllReadyIn.nil
            exact AllReadyIn.nil
          exact AllReadyIn.nil
        refine AllReadyIn.cons rfl (fun K hK => ?_) ?_
        · skip
          go_simp
          refine hK _ _ ?_
          clear hK K
          refine wpAnyIn_ready (rs := [0, 3]) (by kernel_rfl) (by simp) ?_
          refine AllReadyIn.cons rfl (fun K hK => ?_) ?_
          · skip
            go_simp
            refine hK _ _ ?_
            clear hK K
            refine wpAnyIn_ready (rs := [3]) (by kernel_rfl) (by simp) ?_
            refine AllReadyIn.cons rfl (fun K hK => ?_) ?_
            · skip
              go_simp
              refine hK _ _ ?_
              clear hK K
              refine wpAnyIn_ready (rs := [4]) (by kernel_rfl) (by simp) ?_
              refine AllReadyIn.cons rfl (fun K hK => ?_) ?_
              · skip
                go_simp
                refine ⟨trivial, ?_⟩
                refine (CallsIn.inRound l (callsIn_wide.2 (HM.out _ _ (SlI.lit2 (x := ⟨x0, ⟨x1, x2, x3, x4⟩, ⟨x5, x6, x7, x8⟩⟩) (y := ⟨y0, ⟨y1, y2, y3, y4⟩, ⟨y5, y6, y7, y8⟩⟩) (Blk.new W _ _).drew (by simp))))).mono ?_
                rintro e w2 ⟨rfl, hb⟩
                refine hK _ _ ?_
                clear hK K
                have j1 := ((I1.out.alloc (.cells #[.bool x0, .int .i64 x1, .bool x2, .int .u64 x3, .int .i64 x4, .int .i64 x5, .bool x6, .int .u64 x7, .int .i64 x8, .bool y0, .int .i64 y1, .bool y2, .int .u64 y3, .int .i64 y4, .int .i64 y5, .bool y6, .int .u64 y7, .int .i64 y8] 26)).drew).call hb
                obtain ⟨g0, gf0⟩ := j1.c1
                have J1 := Lib.hid j1
                have J2 := Lib.hid (((I2.out.alloc (.cells #[.bool x0, .int .i64 x1, .bool x2, .int .u64 x3, .int .i64 x4, .int .i64 x5, .bool x6, .int .u64 x7, .int .i64 x8, .bool y0, .int .i64 y1, .bool y2, .int .u64 y3, .int .i64 y4, .int .i64 y5, .bool y6, .int .u64 y7, .int .i64 y8] 26)).drew).call hb)
                have hLw := j1.lt
                have Hb := Lib.hid hb
                clear hb j1
                refine wpAnyIn_ready (rs := [5]) (by kernel_rfl) (by simp) ?_
                refine AllReadyIn.cons rfl (fun K hK => ?_) ?_
                · skip
                  go_simp
                  refine hK _ _ ?_
                  clear hK K
                  refine wpAnyIn_ready (rs := [6]) (by kernel_rfl) (by simp) ?_
                  refine AllReadyIn.cons rfl (fun K hK => ?_) ?_
                  · skip
                    refine stepIn_appI (by rfl) (.tmp 18) (.tmp 23) (by rfl) w.heap.size v L (by rfl) (J2.out.alloc (.cells #[.bool r0, .int .i64 r1, .bool r2, .int .u64 r3, .int .i64 r4, .int .i64 r5, .bool r6, .int .u64 r7, .int .i64 r8] 26)) (w2.heap.size + 1) ⟨w2.heap.size, 0, none⟩ 1 1 [⟨r0, ⟨r1, r2, r3, r4⟩, ⟨r5, r6, r7, r8⟩⟩] (by rfl) (SlI.lit1 (Blk.new w2 _ _) (by omega)) (by omega) (by simp; omega) ?_
                    intro v3 w3 O3 hg3 hat3
                    obtain ⟨A3, n3, c3, rfl⟩ := O3.form
                    refine hK _ _ ?_
                    clear hK K
                    have k1 := (J1.out.alloc (.cells #[.bool r0, .int .i64 r1, .bool r2, .int .u64 r3, .int .i64 r4, .int .i64 r5, .bool r6, .int .u64 r7, .int .i64 r8] 26)).grown hg3 (fun e => by have := I3.out _ e.symm; omega)
                    obtain ⟨h0, hf0⟩ := k1.c1
                    have K1 := Lib.hid k1
                    have O3' := Lib.hid O3
                    have Hg3 := Lib.hid hg3
                    have Hat := Lib.hid hat3
                    clear O3 hg3 hat3 k1
                    refine wpAnyIn_ready (rs := [7]) (by kernel_rfl) (by simp) ?_
                    refine AllReadyIn.cons rfl (fun K hK => ?_) ?_
                    · skip
                      go_simp
                      refine hK _ _ ?_
                      clear hK K
                      refine wpAnyIn_done (by kernel_rfl) ?_ _
                      have FIN := app_round (B' := W0.heap.size) hN2 hB I1.out I2.out I3.out i4 i5 Hb.out O3'.out Hg3.out Hat.out
                      rw [← Hsn.out] at FIN
                      gi_wp2
                      exact FIN
                    exact AllReadyIn.nil
                  exact AllReadyIn.nil
                exact AllReadyIn.nil
              exact AllReadyIn.nil
            exact AllReadyIn.nil
          refine AllReadyIn.cons rfl (fun K hK => ?_) ?_
          · skip
            go_simp
            refine hK _ _ ?_
            clear hK K
            refine wpAnyIn_ready (rs := [0, 4]) (by kernel_rfl) (by simp) ?_
            refine AllReadyIn.cons rfl (fun K hK => ?_) ?_
            · skip
              go_simp
              refine hK _ _ ?_
              clear hK K
              refine wpAnyIn_ready (rs := [4]) (by kernel_rfl) (by simp) ?_
              refine AllReadyIn.cons rfl (fun K hK => ?_) ?_
              · skip
                go_simp
                refine ⟨trivial, ?_⟩
                refine (CallsIn.inRound l (callsIn_wide.2 (HM.out _ _ (SlI.lit2 (x := ⟨x0, ⟨x1, x2, x3, x4⟩, ⟨x5, x6, x7, x8⟩⟩) (y := ⟨y0, ⟨y1, y2, y3, y4⟩, ⟨y5, y6, y7, y8⟩⟩) (Blk.new W _ _).drew (by simp))))).mono ?_
                rintro e w2 ⟨rfl, hb⟩
                refine hK _ _ ?_
                clear hK K
                have j1 := ((I1.out.alloc (.cells #[.bool x0, .int .i64 x1, .bool x2, .int .u64 x3, .int .i64 x4, .int .i64 x5, .bool x6, .int .u64 x7, .int .i64 x8, .bool y0, .int .i64 y1, .bool y2, .int .u64 y3, .int .i64 y4, .int .i64 y5, .bool y6, .int .u64 y7, .int .i64 y8] 26)).drew).call hb
                obtain ⟨g0, gf0⟩ := j1.c1
                have J1 := Lib.hid j1
                have J2 := Lib.hid (((I2.out.alloc (.cells #[.bool x0, .int .i64 x1, .bool x2, .int .u64 x3, .int .i64 x4, .int .i64 x5, .bool x6, .int .u64 x7, .int .i64 x8, .bool y0, .int .i64 y1, .bool y2, .int .u64 y3, .int .i64 y4, .int .i64 y5, .bool y6, .int .u64 y7, .int .i64 y8] 26)).drew).call hb)
                have hLw := j1.lt
                have Hb := Lib.hid hb
                clear hb j1
                refine wpAnyIn_ready (rs := [5]) (by kernel_rfl) (by simp) ?_
                refine AllReadyIn.cons rfl (fun K hK => ?_) ?_
                · skip
                  go_simp
                  refine hK _ _ ?_
                  clear hK K
                  refine wpAnyIn_ready (rs := [6]) (by kernel_rfl) (by simp) ?_
                  refine AllReadyIn.cons rfl (fun K hK => ?_) ?_
                  · skip
                    refine stepIn_appI (by rfl) (.tmp 18) (.tmp 23) (by rfl) w.heap.size v L (by rfl) (J2.out.alloc (.cells #[.bool r0, .int .i64 r1, .bool r2, .int .u64 r3, .int .i64 r4, .int .i64 r5, .bool r6, .int .u64 r7, .int .i64 r8] 26)) (w2.heap.size + 1) ⟨w2.heap.size, 0, none⟩ 1 1 [⟨r0, ⟨r1, r2, r3, r4⟩, ⟨r5, r6, r7, r8⟩⟩] (by rfl) (SlI.lit1 (Blk.new w2 _ _) (by omega)) (by omega) (by simp; omega) ?_
                    intro v3 w3 O3 hg3 hat3
                    obtain ⟨A3, n3, c3, rfl⟩ := O3.form
                    refine hK _ _ ?_
                    clear hK K
                    have k1 := (J1.out.alloc (.cells #[.bool r0, .int .i64 r1, .bool r2, .int .u64 r3, .int .i64 r4, .int .i64 r5, .bool r6, .int .u64 r7, .int .i64 r8] 26)).grown hg3 (fun e => by have := I3.out _ e.symm; omega)
                    obtain ⟨h0, hf0⟩ := k1.c1
                    have K1 := Lib.hid k1
                    have O3' := Lib.hid O3
                    have Hg3 := Lib.hid hg3
                    have Hat := Lib.hid hat3
                    clear O3 hg3 hat3 k1
                    refine wpAnyIn_ready (rs := [7]) (by kernel_rfl) (by simp) ?_
                    refine AllReadyIn.cons rfl (fun K hK => ?_) ?_
                    · skip
                      go_simp
                      refine hK _ _ ?_
                      clear hK K
                      refine wpAnyIn_done (by kernel_rfl) ?_ _
                      have FIN := app_round (B' := W0.heap.size) hN2 hB I1.out I2.out I3.out i4 i5 Hb.out O3'.out Hg3.out Hat.out
                      rw [← Hsn.out] at FIN
                      gi_wp2
                      exact FIN
                    exact AllReadyIn.nil
                  exact AllReadyIn.nil
                exact AllReadyIn.nil
              exact AllReadyIn.nil
            refine AllReadyIn.cons rfl (fun K hK => ?_) ?_
            · skip
              go_simp
              refine ⟨trivial, ?_⟩
              refine (CallsIn.inRound l (callsIn_wide.2 (HM.out _ _ (SlI.lit2 (x := ⟨x0, ⟨x1, x2, x3, x4⟩, ⟨x5, x6, x7, x8⟩⟩) (y := ⟨y0, ⟨y1, y2, y3, y4⟩, ⟨y5, y6, y7, y8⟩⟩) (Blk.new W _ _).drew (by simp))))).mono ?_
              rintro e w2 ⟨rfl, hb⟩
              refine hK _ _ ?_
              clear hK K
              have j1 := ((I1.out.alloc (.cells #[.bool x0, .int .i64 x1, .bool x2, .int .u64 x3, .int .i64 x4, .int .i64 x5, .bool x6, .int .u64 x7, .int .i64 x8, .bool y0, .int .i64 y1, .bool y2, .int .u64 y3, .int .i64 y4, .int .i64 y5, .bool y6, .int .u64 y7, .int .i64 y8] 26)).drew).call hb
              obtain ⟨g0, gf0⟩ := j1.c1
              have J1 := Lib.hid j1
              have J2 := Lib.hid (((I2.out.alloc (.cells #[.bool x0, .int .i64 x1, .bool x2, .int .u64 x3, .int .i64 x4, .int .i64 x5, .bool x6, .int .u64 x7, .int .i64 x8, .bool y0, .int .i64 y1, .bool y2, .int .u64 y3, .int .i64 y4, .int .i64 y5, .bool y6, .int .u64 y7, .int .i64 y8] 26)).drew).call hb)
              have hLw := j1.lt
              have Hb := Lib.hid hb
              clear hb j1
              refine wpAnyIn_ready (rs := [0, 5]) (by kernel_rfl) (by simp) ?_
              refine AllReadyIn.cons rfl (fun K hK => ?_) ?_
              · skip
                go_simp
                refine hK _ _ ?_
                clear hK K
                refine wpAnyIn_ready (rs := [5]) (by kernel_rfl) (by simp) ?_
                refine AllReadyIn.cons rfl (fun K hK => ?_) ?_
                · skip
                  go_simp
                  refine hK _ _ ?_
                  clear hK K
                  refine wpAnyIn_ready (rs := [6]) (by kernel_rfl) (by simp) ?_
                  refine AllReadyIn.cons rfl (fun K hK => ?_) ?_
                  · skip
                    refine stepIn_appI (by rfl) (.tmp 18) (.tmp 23) (by rfl) w.heap.size v L (by rfl) (J2.out.alloc (.cells #[.bool r0, .int .i64 r1, .bool r2, .int .u64 r3, .int .i64 r4, .int .i64 r5, .bool r6, .int .u64 r7, .int .i64 r8] 26)) (w2.heap.size + 1) ⟨w2.heap.size, 0, none⟩ 1 1 [⟨r0, ⟨r1, r2, r3, r4⟩, ⟨r5, r6, r7, r8⟩⟩] (by rfl) (SlI.lit1 (Blk.new w2 _ _) (by omega)) (by omega) (by simp; omega) ?_
                    intro v3 w3 O3 hg3 hat3
                    obtain ⟨A3, n3, c3, rfl⟩ := O3.form
                    refine hK _ _ ?_
                    clear hK K
                    have k1 := (J1.out.alloc (.cells #[.bool r0, .int .i64 r1, .bool r2, .int .u64 r3, .int .i64 r4, .int .i64 r5, .bool r6, .int .u64 r7, .int .i64 r8] 26)).grown hg3 (fun e => by have := I3.out _ e.symm; omega)
                    obtain ⟨h0, hf0⟩ := k1.c1
                    have K1 := Lib.hid k1
                    have O3' := Lib.hid O3
                    have Hg3 := Lib.hid hg3
                    have Hat := Lib.hid hat3
                    clear O3 hg3 hat3 k1
                    refine wpAnyIn_ready (rs := [7]) (by kernel_rfl) (by simp) ?_
                    refine AllReadyIn.cons rfl (fun K hK => ?_) ?_
                    · skip
                      go_simp
                      refine hK _ _ ?_
                      clear hK K
                      refine wpAnyIn_done (by kernel_rfl) ?_ _
                      have FIN := app_round (B' := W0.heap.size) hN2 hB I1.out I2.out I3.out i4 i5 Hb.out O3'.out Hg3.out Hat.out
                      rw [← Hsn.out] at FIN
                      gi_wp2
                      exact FIN
                    exact AllReadyIn.nil
                  exact AllReadyIn.nil
                exact AllReadyIn.nil
              refine AllReadyIn.cons rfl (fun K hK => ?_) ?_
              · skip
                go_simp
                refine hK _ _ ?_
                clear hK K
                refine wpAnyIn_ready (rs := [0]) (by kernel_rfl) (by simp) ?_
                refine AllReadyIn.cons rfl (fun K hK => ?_) ?_
                · skip
                  go_simp
                  refine hK _ _ ?_
                  clear hK K
                  refine wpAnyIn_ready (rs := [6]) (by kernel_rfl) (by simp) ?_
                  refine AllReadyIn.cons rfl (fun K hK => ?_) ?_
                  · skip
                    refine stepIn_appI (by rfl) (.tmp 18) (.tmp 23) (by rfl) w.heap.size v L (by rfl) (J2.out.alloc (.cells #[.bool r0, .int .i64 r1, .bool r2, .int .u64 r3, .int .i64 r4, .int .i64 r5, .bool r6, .int .u64 r7, .int .i64 r8] 26)) (w2.heap.size + 1) ⟨w2.heap.size, 0, none⟩ 1 1 [⟨r0, ⟨r1, r2, r3, r4⟩, ⟨r5, r6, r7, r8⟩⟩] (by rfl) (SlI.lit1 (Blk.new w2 _ _) (by omega)) (by omega) (by simp; omega) ?_
                    intro v3 w3 O3 hg3 hat3
                    obtain ⟨A3, n3, c3, rfl⟩ := O3.form
                    refine hK _ _ ?_
                    clear hK K
                    have k1 := (J1.out.alloc (.cells #[.bool r0, .int .i64 r1, .bool r2, .int .u64 r3, .int .i64 r4, .int .i64 r5, .bool r6, .int .u64 r7, .int .i64 r8] 26)).grown hg3 (fun e => by have := I3.out _ e.symm; omega)
                    obtain ⟨h0, hf0⟩ := k1.c1
                    have K1 := Lib.hid k1
                    have O3' := Lib.hid O3
                    have Hg3 := Lib.hid hg3
                    have Hat := Lib.hid hat3
                    clear O3 hg3 hat3 k1
                    refine wpAnyIn_ready (rs := [7]) (by kernel_rfl) (by simp) ?_
                    refine AllReadyIn.cons rfl (fun K hK => ?_) ?_
                    · skip
                      go_simp
                      refine hK _ _ ?_
                      clear hK K
                      refine wpAnyIn_done (by kernel_rfl) ?_ _
                      have FIN := app_round (B' := W0.heap.size) hN2 hB I1.out I2.out I3.out i4 i5 Hb.out O3'.out Hg3.out Hat.out
                      rw [← Hsn.out] at FIN
                      gi_wp2
                      exact FIN
                    exact AllReadyIn.nil
                  exact AllReadyIn.nil
                exact AllReadyIn.nil
              exact AllReadyIn.nil
            exact AllReadyIn.nil
          exact AllReadyIn.nil
        exact AllReadyIn.nil
      refine AllReadyIn.cons rfl (fun K hK => ?_) ?_
      · skip
        go_simp
        refine hK _ _ ?_
        clear hK K
        refine wpAnyIn_ready (rs := [0, 1]) (by kernel_rfl) (by simp) ?_
        refine AllReadyIn.cons rfl (fun K hK => ?_) ?_
        · skip
          go_simp
          refine hK _ _ ?_
          clear hK K
          refine wpAnyIn_ready (rs := [1]) (by kernel_rfl) (by simp) ?_
          refine AllReadyIn.cons rfl (fun K hK => ?_) ?_
          · skip
            go_simp
            refine hK _ _ ?_
            clear hK K
            refine wpAnyIn_ready (rs := [3]) (by kernel_rfl) (by simp) ?_
            refine AllReadyIn.cons rfl (fun K hK => ?_) ?_
            · skip
              go_simp
              refine hK _ _ ?_
              clear hK K
              refine wpAnyIn_ready (rs := [4]) (by kernel_rfl) (by simp) ?_
              refine AllReadyIn.cons rfl (fun K hK => ?_) ?_
              · skip
                go_simp
                refine ⟨trivial, ?_⟩
                refine (CallsIn.inRound l (callsIn_wide.2 (HM.out _ _ (SlI.lit2 (x := ⟨x0, ⟨x1, x2, x3, x4⟩, ⟨x5, x6, x7, x8⟩⟩) (y := ⟨y0, ⟨y1, y2, y3, y4⟩, ⟨y5, y6, y7, y8⟩⟩) (Blk.new W _ _).drew (by simp))))).mono ?_
                rintro e w2 ⟨rfl, hb⟩
                refine hK _ _ ?_
                clear hK K
                have j1 := ((I1.out.alloc (.cells #[.bool x0, .int .i64 x1, .bool x2, .int .u64 x3, .int .i64 x4, .int .i64 x5, .bool x6, .int .u64 x7, .int .i64 x8, .bool y0, .int .i64 y1, .bool y2, .int .u64 y3, .int .i64 y4, .int .i64 y5, .bool y6, .int .u64 y7, .int .i64 y8] 26)).drew).call hb
                obtain ⟨g0, gf0⟩ := j1.c1
                have J1 := Lib.hid j1
                have J2 := Lib.hid (((I2.out.alloc (.cells #[.bool x0, .int .i64 x1, .bool x2, .int .u64 x3, .int .i64 x4, .int .i64 x5, .bool x6, .int .u64 x7, .int .i64 x8, .bool y0, .int .i64 y1, .bool y2, .int .u64 y3, .int .i64 y4, .int .i64 y5, .bool y6, .int .u64 y7, .int .i64 y8] 26)).drew).call hb)
                have hLw := j1.lt
                have Hb := Lib.hid hb
                clear hb j1
                refine wpAnyIn_ready (rs := [5]) (by kernel_rfl) (by simp) ?_
                refine AllReadyIn.cons rfl (fun K hK => ?_) ?_
                · skip
                  go_simp
                  refine hK _ _ ?_
                  clear hK K
                  refine wpAnyIn_ready (rs := [6]) (by kernel_rfl) (by simp) ?_
                  refine AllReadyIn.cons rfl (fun K hK => ?_) ?_
                  · skip
                    refine stepIn_appI (by rfl) (.tmp 18) (.tmp 23) (by rfl) w.heap.size v L (by rfl) (J2.out.alloc (.cells #[.bool r0, .int .i64 r1, .bool r2, .int .u64 r3, .int .i64 r4, .int .i64 r5, .bool r6, .int .u64 r7, .int .i64 r8] 26)) (w2.heap.size + 1) ⟨w2.heap.size, 0, none⟩ 1 1 [⟨r0, ⟨r1, r2, r3, r4⟩, ⟨r5, r6, r7, r8⟩⟩] (by rfl) (SlI.lit1 (Blk.new w2 _ _) (by omega)) (by omega) (by simp; omega) ?_
                    intro v3 w3 O3 hg3 hat3
                    obtain ⟨A3, n3, c3, rfl⟩ := O3.form
                    refine hK _ _ ?_
                    clear hK K
                    have k1 := (J1.out.alloc (.cells #[.bool r0, .int .i64 r1, .bool r2, .int .u64 r3, .int .i64 r4, .int .i64 r5, .bool r6, .int .u64 r7, .int .i64 r8] 26)).grown hg3 (fun e => by have := I3.out _ e.symm; omega)
                    obtain ⟨h0, hf0⟩ := k1.c1
                    have K1 := Lib.hid k1
                    have O3' := Lib.hid O3
                    have Hg3 := Lib.hid hg3
                    have Hat := Lib.hid hat3
                    clear O3 hg3 hat3 k1
                    refine wpAnyIn_ready (rs := [7]) (by kernel_rfl) (by simp) ?_
                    refine AllReadyIn.cons rfl (fun K hK => ?_) ?_
                    · skip
                      go_simp
                      refine hK _ _ ?_
                      clear hK K
                      refine wpAnyIn_done (by kernel_rfl) ?_ _
                      have FIN := app_round (B' := W0.heap.size) hN2 hB I1.out I2.out I3.out i4 i5 Hb.out O3'.out Hg3.out Hat.out
                      rw [← Hsn.out] at FIN
                      gi_wp2
                      exact FIN
                    exact AllReadyIn.nil
                  exact AllReadyIn.nil
                exact AllReadyIn.nil
              exact AllReadyIn.nil
            exact AllReadyIn.nil
          exact AllReadyIn.nil
        refine AllReadyIn.cons rfl (fun K hK => ?_) ?_
        · skip
          go_simp
          refine hK _ _ ?_
          clear hK K
          refine wpAnyIn_ready (rs := [0, 3]) (by kernel_rfl) (by simp) ?_
          refine AllReadyIn.cons rfl (fun K hK => ?_) ?_
          · skip
            go_simp
            refine hK _ _ ?_
            clear hK K
            refine wpAnyIn_ready (rs := [3]) (by kernel_rfl) (by simp) ?_
            refine AllReadyIn.cons rfl (fun K hK => ?_) ?_
            · skip
              go_simp
              refine hK _ _ ?_
              clear hK K
              refine wpAnyIn_ready (rs := [4]) (by kernel_rfl) (by simp) ?_
              refine AllReadyIn.cons rfl (fun K hK => ?_) ?_
              · skip
                go_simp
                refine ⟨trivial, ?_⟩
                refine (CallsIn.inRound l (callsIn_wide.2 (HM.out _ _ (SlI.lit2 (x := ⟨x0, ⟨x1, x2, x3, x4⟩, ⟨x5, x6, x7, x8⟩⟩) (y := ⟨y0, ⟨y1, y2, y3, y4⟩, ⟨y5, y6, y7, y8⟩⟩) (Blk.new W _ _).drew (by simp))))).mono ?_
                rintro e w2 ⟨rfl, hb⟩
                refine hK _ _ ?_
                clear hK K
                have j1 := ((I1.out.alloc (.cells #[.bool x0, .int .i64 x1, .bool x2, .int .u64 x3, .int .i64 x4, .int .i64 x5, .bool x6, .int .u64 x7, .int .i64 x8, .bool y0, .int .i64 y1, .bool y2, .int .u64 y3, .int .i64 y4, .int .i64 y5, .bool y6, .int .u64 y7, .int .i64 y8] 26)).drew).call hb
                obtain ⟨g0, gf0⟩ := j1.c1
                have J1 := Lib.hid j1
                have J2 := Lib.hid (((I2.out.alloc (.cells #[.bool x0, .int .i64 x1, .bool x2, .int .u64 x3, .int .i64 x4, .int .i64 x5, .bool x6, .int .u64 x7, .int .i64 x8, .bool y0, .int .i64 y1, .bool y2, .int .u64 y3, .int .i64 y4, .int .i64 y5, .bool y6, .int .u64 y7, .int .i64 y8] 26)).drew).call hb)
                have hLw := j1.lt
                have Hb := Lib.hid hb
                clear hb j1
                refine wpAnyIn_ready (rs := [5]) (by kernel_rfl) (by simp) ?_
                refine AllReadyIn.cons rfl (fun K hK => ?_) ?_
                · skip
                  go_simp
                  refine hK _ _ ?_
                  clear hK K
                  refine wpAnyIn_ready (rs := [6]) (by kernel_rfl) (by simp) ?_
                  refine AllReadyIn.cons rfl (fun K hK => ?_) ?_
                  · skip
                    refine stepIn_appI (by rfl) (.tmp 18) (.tmp 23) (by rfl) w.heap.size v L (by rfl) (J2.out.alloc (.cells #[.bool r0, .int .i64 r1, .bool r2, .int .u64 r3, .int .i64 r4, .int .i64 r5, .bool r6, .int .u64 r7, .int .i64 r8] 26)) (w2.heap.size + 1) ⟨w2.heap.size, 0, none⟩ 1 1 [⟨r0, ⟨r1, r2, r3, r4⟩, ⟨r5, r6, r7, r8⟩⟩] (by rfl) (SlI.lit1 (Blk.new w2 _ _) (by omega)) (by omega) (by simp; omega) ?_
                    intro v3 w3 O3 hg3 hat3
                    obtain ⟨A3, n3, c3, rfl⟩ := O3.form
                    refine hK _ _ ?_
                    clear hK K
                    have k1 := (J1.out.alloc (.cells #[.bool r0, .int .i64 r1, .bool r2, .int .u64 r3, .int .i64 r4, .int .i64 r5, .bool r6, .int .u64 r7, .int .i64 r8] 26)).grown hg3 (fun e => by have := I3.out _ e.symm; omega)
                    obtain ⟨h0, hf0⟩ := k1.c1
                    have K1 := Lib.hid k1
                    have O3' := Lib.hid O3
                    have Hg3 := Lib.hid hg3
                    have Hat := Lib.hid hat3
                    clear O3 hg3 hat3 k1
                    refine wpAnyIn_ready (rs := [7]) (by kernel_rfl) (by simp) ?_
                    refine AllReadyIn.cons rfl (fun K hK => ?_) ?_
                    · skip
                      go_simp
                      refine hK _ _ ?_
                      clear hK K
                      refine wpAnyIn_done (by kernel_rfl) ?_ _
                      have FIN := app_round (B' := W0.heap.size) hN2 hB I1.out I2.out I3.out i4 i5 Hb.out O3'.out Hg3.out Hat.out
                      rw [← Hsn.out] at FIN
                      gi_wp2
                      exact FIN
                    exact AllReadyIn.nil
                  exact AllReadyIn.nil
                exact AllReadyIn.nil
              exact AllReadyIn.nil
            exact AllReadyIn.nil
          refine AllReadyIn.cons rfl (fun K hK => ?_) ?_
          · skip
            go_simp
            refine hK _ _ ?_
            clear hK K
            refine wpAnyIn_ready (rs := [0, 4]) (by kernel_rfl) (by simp) ?_
            refine AllReadyIn.cons rfl (fun K hK => ?_) ?_
            · skip
              go_simp
              refine hK _ _ ?_
              clear hK K
              refine wpAnyIn_ready (rs := [4]) (by kernel_rfl) (by simp) ?_
              refine AllReadyIn.cons rfl (fun K hK => ?_) ?_
              · skip
                go_simp
                refine ⟨trivial, ?_⟩
                refine (CallsIn.inRound l (callsIn_wide.2 (HM.out _ _ (SlI.lit2 (x := ⟨x0, ⟨x1, x2, x3, x4⟩, ⟨x5, x6, x7, x8⟩⟩) (y := ⟨y0, ⟨y1, y2, y3, y4⟩, ⟨y5, y6, y7, y8⟩⟩) (Blk.new W _ _).drew (by simp))))).mono ?_
                rintro e w2 ⟨rfl, hb⟩
                refine hK _ _ ?_
                clear hK K
                have j1 := ((I1.out.alloc (.cells #[.bool x0, .int .i64 x1, .bool x2, .int .u64 x3, .int .i64 x4, .int .i64 x5, .bool x6, .int .u64 x7, .int .i64 x8, .bool y0, .int .i64 y1, .bool y2, .int .u64 y3, .int .i64 y4, .int .i64 y5, .bool y6, .int .u64 y7, .int .i64 y8] 26)).drew).call hb
                obtain ⟨g0, gf0⟩ := j1.c1
                have J1 := Lib.hid j1
                have J2 := Lib.hid (((I2.out.alloc (.cells #[.bool x0, .int .i64 x1, .bool x2, .int .u64 x3, .int .i64 x4, .int .i64 x5, .bool x6, .int .u64 x7, .int .i64 x8, .bool y0, .int .i64 y1, .bool y2, .int .u64 y3, .int .i64 y4, .int .i64 y5, .bool y6, .int .u64 y7, .int .i64 y8] 26)).drew).call hb)
                have hLw := j1.lt
                have Hb := Lib.hid hb
                clear hb j1
                refine wpAnyIn_ready (rs := [5]) (by kernel_rfl) (by simp) ?_
                refine AllReadyIn.cons rfl (fun K hK => ?_) ?_
                · skip
                  go_simp
                  refine hK _ _ ?_
                  clear hK K
                  refine wpAnyIn_ready (rs := [6]) (by kernel_rfl) (by simp) ?_
                  refine AllReadyIn.cons rfl (fun K hK => ?_) ?_
                  · skip
                    refine stepIn_appI (by rfl) (.tmp 18) (.tmp 23) (by rfl) w.heap.size v L (by rfl) (J2.out.alloc (.cells #[.bool r0, .int .i64 r1, .bool r2, .int .u64 r3, .int .i64 r4, .int .i64 r5, .bool r6, .int .u64 r7, .int .i64 r8] 26)) (w2.heap.size + 1) ⟨w2.heap.size, 0, none⟩ 1 1 [⟨r0, ⟨r1, r2, r3, r4⟩, ⟨r5, r6, r7, r8⟩⟩] (by rfl) (SlI.lit1 (Blk.new w2 _ _) (by omega)) (by omega) (by simp; omega) ?_
                    intro v3 w3 O3 hg3 hat3
                    obtain ⟨A3, n3, c3, rfl⟩ := O3.form
                    refine hK _ _ ?_
                    clear hK K
                    have k1 := (J1.out.alloc (.cells #[.bool r0, .int .i64 r1, .bool r2, .int .u64 r3, .int .i64 r4, .int .i64 r5, .bool r6, .int .u64 r7, .int .i64 r8] 26)).grown hg3 (fun e => by have := I3.out _ e.symm; omega)
                    obtain ⟨h0, hf0⟩ := k1.c1
                    have K1 := Lib.hid k1
                    have O3' := Lib.hid O3
                    have Hg3 := Lib.hid hg3
                    have Hat := Lib.hid hat3
                    clear O3 hg3 hat3 k1
                    refine wpAnyIn_ready (rs := [7]) (by kernel_rfl) (by simp) ?_
                    refine AllReadyIn.cons rfl (fun K hK => ?_) ?_
                    · skip
                      go_simp
                      refine hK _ _ ?_
                      clear hK K
                      refine wpAnyIn_done (by kernel_rfl) ?_ _
                      have FIN := app_round (B' := W0.heap.size) hN2 hB I1.out I2.out I3.out i4 i5 Hb.out O3'.out Hg3.out Hat.out
                      rw [← Hsn.out] at FIN
                      gi_wp2
                      exact FIN
                    exact AllReadyIn.nil
                  exact AllReadyIn.nil
                exact AllReadyIn.nil
              exact AllReadyIn.nil
            refine AllReadyIn.cons rfl (fun K hK => ?_) ?_
            · skip
              go_simp
              refine ⟨trivial, ?_⟩
              refine (CallsIn.inRound l (callsIn_wide.2 (HM.out _ _ (SlI.lit2 (x := ⟨x0, ⟨x1, x2, x3, x4⟩, ⟨x5, x6, x7, x8⟩⟩) (y := ⟨y0, ⟨y1, y2, y3, y4⟩, ⟨y5, y6, y7, y8⟩⟩) (Blk.new W _ _).drew (by simp))))).mono ?_
              rintro e w2 ⟨rfl, hb⟩
              refine hK _ _ ?_
              clear hK K
              have j1 := ((I1.out.alloc (.cells #[.bool x0, .int .i64 x1, .bool x2, .int .u64 x3, .int .i64 x4, .int .i64 x5, .bool x6, .int .u64 x7, .int .i64 x8, .bool y0, .int .i64 y1, .bool y2, .int .u64 y3, .int .i64 y4, .int .i64 y5, .bool y6, .int .u64 y7, .int .i64 y8] 26)).drew).call hb
              obtain ⟨g0, gf0⟩ := j1.c1
              have J1 := Lib.hid j1
              have J2 := Lib.hid (((I2.out.alloc (.cells #[.bool x0, .int .i64 x1, .bool x2, .int .u64 x3, .int .i64 x4, .int .i64 x5, .bool x6, .int .u64 x7, .int .i64 x8, .bool y0, .int .i64 y1, .bool y2, .int .u64 y3, .int .i64 y4, .int .i64 y5, .bool y6, .int .u64 y7, .int .i64 y8] 26)).drew).call hb)
              have hLw := j1.lt
              have Hb := Lib.hid hb
              clear hb j1
              refine wpAnyIn_ready (rs := [0, 5]) (by kernel_rfl) (by simp) ?_
              refine AllReadyIn.cons rfl (fun K hK => ?_) ?_
              · skip
                go_simp
                refine hK _ _ ?_
                clear hK K
                refine wpAnyIn_ready (rs := [5]) (by kernel_rfl) (by simp) ?_
                refine AllReadyIn.cons rfl (fun K hK => ?_) ?_
                · skip
                  go_simp
                  refine hK _ _ ?_
                  clear hK K
                  refine wpAnyIn_ready (rs := [6]) (by kernel_rfl) (by simp) ?_
                  refine AllReadyIn.cons rfl (fun K hK => ?_) ?_
                  · skip
                    refine stepIn_appI (by rfl) (.tmp 18) (.tmp 23) (by rfl) w.heap.size v L (by rfl) (J2.out.alloc (.cells #[.bool r0, .int .i64 r1, .bool r2, .int .u64 r3, .int .i64 r4, .int .i64 r5, .bool r6, .int .u64 r7, .int .i64 r8] 26)) (w2.heap.size + 1) ⟨w2.heap.size, 0, none⟩ 1 1 [⟨r0, ⟨r1, r2, r3, r4⟩, ⟨r5, r6, r7, r8⟩⟩] (by rfl) (SlI.lit1 (Blk.new w2 _ _) (by omega)) (by omega) (by simp; omega) ?_
                    intro v3 w3 O3 hg3 hat3
                    obtain ⟨A3, n3, c3, rfl⟩ := O3.form
                    refine hK _ _ ?_
                    clear hK K
                    have k1 := (J1.out.alloc (.cells #[.bool r0, .int .i64 r1, .bool r2, .int .u64 r3, .int .i64 r4, .int .i64 r5, .bool r6, .int .u64 r7, .int .i64 r8] 26)).grown hg3 (fun e => by have := I3.out _ e.symm; omega)
                    obtain ⟨h0, hf0⟩ := k1.c1
                    have K1 := Lib.hid k1
                    have O3' := Lib.hid O3
                    have Hg3 := Lib.hid hg3
                    have Hat := Lib.hid hat3
                    clear O3 hg3 hat3 k1
                    refine wpAnyIn_ready (rs := [7]) (by kernel_rfl) (by simp) ?_
                    refine AllReadyIn.cons rfl (fun K hK => ?_) ?_
                    · skip
                      go_simp
                      refine hK _ _ ?_
                      clear hK K
                      refine wpAnyIn_done (by kernel_rfl) ?_ _
                      have FIN := app_round (B' := W0.heap.size) hN2 hB I1.out I2.out I3.out i4 i5 Hb.out O3'.out Hg3.out Hat.out
                      rw [← Hsn.out] at FIN
                      gi_wp2
                      exact FIN
                    exact AllReadyIn.nil
                  exact AllReadyIn.nil
                exact AllReadyIn.nil
              refine AllReadyIn.cons rfl (fun K hK => ?_) ?_
              · skip
                go_simp
                refine hK _ _ ?_
                clear hK K
                refine wpAnyIn_ready (rs := [0]) (by kernel_rfl) (by simp) ?_
                refine AllReadyIn.cons rfl (fun K hK => ?_) ?_
                · skip
                  go_simp
                  refine hK _ _ ?_
                  clear hK K
                  refine wpAnyIn_ready (rs := [6]) (by kernel_rfl) (by simp) ?_
                  refine AllReadyIn.cons rfl (fun K hK => ?_) ?_
                  · skip
                    refine stepIn_appI (by rfl) (.tmp 18) (.tmp 23) (by rfl) w.heap.size v L (by rfl) (J2.out.alloc (.cells #[.bool r0, .int .i64 r1, .bool r2, .int .u64 r3, .int .i64 r4, .int .i64 r5, .bool r6, .int .u64 r7, .int .i64 r8] 26)) (w2.heap.size + 1) ⟨w2.heap.size, 0, none⟩ 1 1 [⟨r0, ⟨r1, r2, r3, r4⟩, ⟨r5, r6, r7, r8⟩⟩] (by rfl) (SlI.lit1 (Blk.new w2 _ _) (by omega)) (by omega) (by simp; omega) ?_
                    intro v3 w3 O3 hg3 hat3
                    obtain ⟨A3, n3, c3, rfl⟩ := O3.form
                    refine hK _ _ ?_
                    clear hK K
                    have k1 := (J1.out.alloc (.cells #[.bool r0, .int .i64 r1, .bool r2, .int .u64 r3, .int .i64 r4, .int .i64 r5, .bool r6, .int .u64 r7, .int .i64 r8] 26)).grown hg3 (fun e => by have := I3.out _ e.symm; omega)
                    obtain ⟨h0, hf0⟩ := k1.c1
                    have K1 := Lib.hid k1
                    have O3' := Lib.hid O3
                    have Hg3 := Lib.hid hg3
                    have Hat := Lib.hid hat3
                    clear O3 hg3 hat3 k1
                    refine wpAnyIn_ready (rs := [7]) (by kernel_rfl) (by simp) ?_
                    refine AllReadyIn.cons rfl (fun K hK => ?_) ?_
                    · skip
                      go_simp
                      refine hK _ _ ?_
                      clear hK K
                      refine wpAnyIn_done (by kernel_rfl) ?_ _
                      have FIN := app_round (B' := W0.heap.size) hN2 hB I1.out I2.out I3.out i4 i5 Hb.out O3'.out Hg3.out Hat.out
                      rw [← Hsn.out] at FIN
                      gi_wp2
                      exact FIN
                    exact AllReadyIn.nil
                  exact AllReadyIn.nil
                exact AllReadyIn.nil
              exact AllReadyIn.nil
            exact AllReadyIn.nil
          exact AllReadyIn.nil
        exact AllReadyIn.nil
      exact AllReadyIn.nil
    case done =>
      rintro D zs W hD rfl ⟨⟨v, i1, i2, i3, i4, i5⟩, hB⟩ hK
      have hDl : D < W.heap.size := (Array.getElem?_eq_some_iff.1 hK).1
      rw [zip_map] at i2
      obtain ⟨A1, c1, rfl, S1⟩ := i2.sln (n := n) (by rw [List.length_zipWith]; omega)
      obtain ⟨q0, f0⟩ := i1.c1
      have HF := Lib.hid (fairB_calls A1 n c1 _ W S1 hn)
      have HK := Lib.hid hK
      have hBz := hB.size
      clear i1 i2 i3 i4 i5 S1 hK
      gi_wp2_with (refine ⟨trivial, ?_⟩; gi_at_call 38; refine (callsIn_wide.2 HF.out).mono ?_; rintro e w5 ⟨v5, rfl, O5, hb⟩)
      have hK' := (hb.block D hDl).trans HK.out
      have hb5 := (hB.trans (hb.mono hBz))
      refine ⟨by simp, .inl ⟨_, _, rfl, run_takeDeferred hK', ?_⟩⟩
      refine ⟨v5, by simp [results, Try.results34, go_sem], _, rfl, (O5.base hBz).same fun k hk => World.putObj_heap_other (by have := (O5.lt k hk).1; omega), hb5.trans (belowK_b (w := w) (Nat.le_refl _) _ D _ _ (by omega) hK' rfl rfl)⟩
    case stop =>
      rintro D c' pre W hD ⟨k, hk, rfl⟩ ⟨hF, hB⟩ hK
      exact hF.elim
  · rw [if_neg hnm]
    have hq : ((n : Int) != m) = true := by simp; omega
    gi_wp2
    exact ⟨.slice none 0 0, by simp [results, Try.results34, go_sem], _, rfl, OwnI.nil _ _, Below.refl _ _⟩
end Go.Proofs.Ytagojbgmgkkdpaa.Wk


/- Walk: box.Hull. -/
namespace Go.Proofs.Ytagojbgmgkkdpaa.Wk
open Go.RowKit Go.Shelf Go.Proofs.Pl Go.Proofs.YtagojbgmgkkdpaaW.PrintLast
set_option linter.unusedSimpArgs false
set_option linter.unusedVariables false
attribute [local go_sem] Oper.semAt_some

set_option maxRecDepth 100000 in
set_option maxHeartbeats 8000000 in
theorem hullB_calls (A : Option Addr) (n c : Nat) (xs : List Iv) (B : Option Addr) (m d : Nat) (ys : List Iv) (w : World) (hs : SlI w w.heap.size A n xs) (ht : SlI w w.heap.size B m ys) (hn : n ≤ 1000) :
    Calls Try.prog 36 #[.slice A n c, .slice B m d] w fun e w' => ∃ v, e = .returned v ∧ OwnI w' w.heap.size v (hullB xs ys) ∧ Below w.heap.size w w' := by
  refine (callsIn_wide (n := 4)).1 ?_
  refine callsIn_of_wp_marks Try.func36 rfl trivial ?_ rfl
  simp only [Try.ntmps36, List.size_toArray, List.length_cons, List.length_nil, Nat.reduceAdd, Nat.reduceSub, Array.replicate_succ, Array.replicate_zero, List.push_toArray, List.append_toArray, List.nil_append, List.cons_append]
  unfold hullB
  rw [hs.1, ht.1]
  by_cases hnm : n = m
  · subst hnm
    rw [if_pos rfl]
    have hq : ((n : Int) != n) = false := by simp
    have HE := Lib.hid (fun W h => emptyB_calls A n c xs W h hn)
    have HE2 := Lib.hid (fun W h => emptyB_calls B n d ys W h hn)
    cases hp : emptyB xs
    · rw [hp] at HE
      rw [if_neg (by simp)]
      cases hp2 : emptyB ys
      · rw [hp2] at HE2
        rw [if_neg (by simp)]
        gi_wp2_with (refine ⟨trivial, ?_⟩; first
          | (gi_at_call 40; first
            | (refine (callsIn_wide.2 (HE.out w hs)).mono ?_; rintro e w1 ⟨rfl, hb1⟩)
            | (refine (callsIn_wide.2 (HE2.out w1 (ht.on hb1))).mono ?_; rintro e w2 ⟨rfl, hb2⟩))
          | (gi_at_call 79; refine (callsIn_wide.2 (pairs_calls A n c B n d _)).mono ?_; rintro e w' ⟨rfl, rfl⟩))
        have hb12 := bl_trans hb1 hb2
        have BL := ((Blk.new w2 41 #[.slice none 0 0]).alloc (.cells #[.slice A n c] 41)).alloc (.cells #[.slice B n d] 41)
        have BX := (Blk.new1 w2 (.cells #[.slice none 0 0] 41) 41 #[.slice A n c]).alloc (.cells #[.slice B n d] 41)
        have BY := Blk.new2 w2 (.cells #[.slice none 0 0] 41) (.cells #[.slice A n c] 41) 41 #[.slice B n d]
        have HB2 := bl_alloc (bl_alloc (bl_alloc (Below.refl w2.heap.size w2) (.cells #[.slice none 0 0] 41)) (.cells #[.slice A n c] 41)) (.cells #[.slice B n d] 41)
        obtain ⟨W0, hW0⟩ : ∃ W0, ((w2.alloc (.cells #[.slice none 0 0] 41)).alloc (.cells #[.slice A n c] 41)).alloc (.cells #[.slice B n d] 41) = W0 := ⟨_, rfl⟩
        have hsz : W0.heap.size = w2.heap.size + 3 := by rw [← hW0]; simp
        rw [hW0] at BL BX BY HB2 ⊢
        have hs2 := (hs.on hb12).below HB2
        have ht2 := (ht.on hb12).below HB2
        have hlen : xs.length = ys.length := by rw [hs.1, ht.1]
        have hxl := hs.1
        clear hW0 hs ht
        obtain ⟨N, hN⟩ : ∃ N, N = w2.heap.size + 1 := ⟨_, rfl⟩
        have BY' : Blk W0 (N + 1) 41 #[.slice B n d] := by rw [hN]; exact BY
        have BX' : Blk W0 N 41 #[.slice A n c] := by rw [hN]; exact BX
        rw [← hN]
        have hN1 : N + 1 < W0.heap.size := by omega
        have hN2 : w2.heap.size < N := by omega
        clear BX BY hN hsz
        refine wpIn_rangeFunc_ownH rfl (by omega) (gf := 113) (lb := #[.pointer (some ⟨N, 0, none⟩), .pointer (some ⟨N + 1, 0, none⟩)]) rfl trivial (enters_of Try.func113 (by kernel_rfl) rfl)
          (pairs_stops 3 (by omega) N (N + 1) w2.heap.size n c d A B xs ys hn W0 BX' BY' (by omega) hs2 ht2) KpP.trans
          (fun W l o o' hl h1 h2 h3 => ⟨belowK_b (w := W0) (by omega) W l o o' hl h1 h2 h3, World.putObj_heap_other (by omega), World.putObj_heap_other (by omega)⟩) (Below.refl _ _) (fun _ => rfl)
          (fun pre W => (∃ v, Blk W w2.heap.size 41 #[v] ∧ OwnI W w2.heap.size v (pre.map fun x => hull2 x.1 x.2) ∧ (∀ k, v.ownBlock = some k → N + 1 < k) ∧ Blk W N 41 #[.slice A n c] ∧ Blk W (N + 1) 41 #[.slice B n d]) ∧ Below w2.heap.size w2 W)
          (fun c pre W => False ∧ Below w2.heap.size w2 W)
          ?hI ?hIx ?h0
          (fun x a' W => ∃ P Q, N + 1 < P ∧ N + 1 < Q ∧ P ≠ Q ∧ (Blk W P 26 (ivCells x.1).toArray ∧ Blk W Q 26 (ivCells x.2).toArray) ∧ a' = { tmps := #[.slice A n c, .slice B n d, undef, undef, .slice none 0 0, .pointer (some ⟨w2.heap.size, 0, none⟩), .pointer (some ⟨P, 0, none⟩), .pointer (some ⟨Q, 0, none⟩), .bool false, .slice A n c, .int .i64 n, .slice B n d, .int .i64 n, .bool false, .bool false, .slice A n c, .bool false, undef, undef, .bool false, .slice B n d, .bool false, undef, undef, .slice A n c, .slice B n d, .func (.func 113) #[] #[.pointer (some ⟨N, 0, none⟩), .pointer (some ⟨N + 1, 0, none⟩)], .agg (ivCells x.1).toArray, .agg (ivCells x.2).toArray, undef, undef, undef, undef, undef, undef, undef, undef], defers := [] })
          ?hAx ?assign ?body ?done ?stop
        case hI =>
          refine OwnFrom.and ?_ (ownFrom_below (Nat.le_refl _) (by omega))
          rintro s X Y row ⟨v, h1, h2, h3, h4, h5⟩ hg hr
          exact ⟨v, blk_own _ _ (fun _ : Unit => #[v]) () X Y row h1 hg (fun r e => (hr r e).2), ownI_own _ _ _ h2 hg (fun r e => (hr r e).2), h3, blk_own _ _ (fun _ : Unit => #[.slice A n c]) () X Y row h4 hg (fun r e => (hr r e).2), blk_own _ _ (fun _ : Unit => #[.slice B n d]) () X Y row h5 hg (fun r e => (hr r e).2)⟩
        case hIx =>
          intro c
          exact OwnFrom.and (ownFrom_pure _ _) (ownFrom_below (Nat.le_refl _) (by omega))
        case h0 => exact ⟨⟨_, BL, OwnI.nil _ _, (fun k hk => by cases hk), BX', BY'⟩, HB2⟩
        case hAx =>
          intro x a'
          rintro s X Y row ⟨P, Q, h1, h2, h3, h4, h5⟩ hg hr
          exact ⟨P, Q, h1, h2, h3, ⟨blk_own _ _ (fun _ : Unit => (ivCells x.1).toArray) s X Y row h4.1 hg (fun r e => (hr r e).2), blk_own _ _ (fun _ : Unit => (ivCells x.2).toArray) s X Y row h4.2 hg (fun r e => (hr r e).2)⟩, h5⟩
        case assign =>
          rintro l pre ⟨x, y⟩ W K ⟨⟨v, i1, i2, i3, i4, i5⟩, hB⟩ hK
          dsimp only at hK
          have hb2 : Below W.heap.size W ((W.alloc (.cells (ivCells x).toArray 26)).alloc (.cells (ivCells y).toArray 26)) := bl_alloc (bl_alloc (Below.refl _ _) _) _
          have hNW := i5.lt
          have hK2 := hK _ _ (keepsFrom_below hb2 _) ⟨hb2.mono hB.size, hb2.block _ (by omega), hb2.block _ hNW⟩ ⟨⟨v, i1.call hb2, i2.call hb2, i3, i4.call hb2, i5.call hb2⟩, bl_trans hB hb2⟩
            ⟨W.heap.size, W.heap.size + 1, by omega, by omega, by omega, ⟨(Blk.new W _ _).alloc _, Blk.new1 W _ _ _⟩, rfl⟩
          clear hK i1 i2 i3 i4 i5 hB hb2
          dsimp only [encP, ivCells] at hK2 ⊢
          gi_wp2
          exact hK2
        case body =>
          rintro l pre ⟨x, y⟩ a' W hl ⟨r, hr⟩ ⟨⟨v, i1, i2, i3, i4, i5⟩, hB⟩ ⟨P, Q, hP, hQ, hPQ, ⟨bP, bQ⟩, rfl⟩ hlenp
          obtain ⟨x0, ⟨x1, x2, x3, x4⟩, ⟨x5, x6, x7, x8⟩⟩ := x
          obtain ⟨y0, ⟨y1, y2, y3, y4⟩, ⟨y5, y6, y7, y8⟩⟩ := y
          have HM := Lib.hid (fun A W (h : SlI W W.heap.size A 2 [⟨x0, ⟨x1, x2, x3, x4⟩, ⟨x5, x6, x7, x8⟩⟩, ⟨y0, ⟨y1, y2, y3, y4⟩, ⟨y5, y6, y7, y8⟩⟩]) => hullI_calls A 2 2 _ W h (by omega))
          have Hsn := Lib.hid (show (pre ++ [((⟨x0, ⟨x1, x2, x3, x4⟩, ⟨x5, x6, x7, x8⟩⟩ : Iv), (⟨y0, ⟨y1, y2, y3, y4⟩, ⟨y5, y6, y7, y8⟩⟩ : Iv))]).map (fun z : Iv × Iv => hull2 z.1 z.2) = pre.map (fun z : Iv × Iv => hull2 z.1 z.2) ++ [hullI [⟨x0, ⟨x1, x2, x3, x4⟩, ⟨x5, x6, x7, x8⟩⟩, ⟨y0, ⟨y1, y2, y3, y4⟩, ⟨y5, y6, y7, y8⟩⟩]] by simp [hull2])
          generalize hullI [⟨x0, ⟨x1, x2, x3, x4⟩, ⟨x5, x6, x7, x8⟩⟩, ⟨y0, ⟨y1, y2, y3, y4⟩, ⟨y5, y6, y7, y8⟩⟩] = r at HM Hsn
          have hpl : (pre.map fun z : Iv × Iv => hull2 z.1 z.2).length < n := by rw [List.length_map]; exact hlenp
          generalize hL : (pre.map fun z : Iv × Iv => hull2 z.1 z.2) = L at i2 hpl Hsn
          clear hL
          obtain ⟨r0, ⟨r1, r2, r3, r4⟩, ⟨r5, r6, r7, r8⟩⟩ := r
          dsimp only [ivCells] at bP bQ HM ⊢
          have z1 := i1.drew
          have zP := bP.drew
          have zQ := bQ.drew
          obtain ⟨p0, pf0⟩ := z1.c1
          obtain ⟨p0', pf0'⟩ := i1.c1
          obtain ⟨⟨q0, q1, q2, q3, q4, q5, q6, q7, q8⟩, _⟩ := zP.c9
          obtain ⟨⟨t0, t1, t2, t3, t4, t5, t6, t7, t8⟩, _⟩ := zQ.c9
          have hPW := bP.lt
          have hQW := bQ.lt
          have hLW := i1.lt
          have I2 := Lib.hid i2
          have I3 := Lib.hid i3
          clear i2 i3
          gi_wp2_with fail
          have I1 := Lib.hid i1
          clear i1
          refine wpIn_region_any (by kernel_rfl) ?_
          change wpAnyIn _ _ _ _ _ _ _ _ _ (World.drew _)
          refine wpAnyIn_ready (rs := [0, 1, 2]) (by kernel_rfl) (by simp) ?_
          refine AllReadyIn.cons rfl (fun K hK => ?_) ?_
          · skip
            go_simp
            refine hK _ _ ?_
            clear hK K
            refine wpAnyIn_ready (rs := [1, 2]) (by kernel_rfl) (by simp) ?_
            refine AllReadyIn.cons rfl (fun K hK => ?_) ?_
            · skip
              go_simp
              refine hK _ _ ?_
              clear hK K
              refine wpAnyIn_ready (rs := [2]) (by kernel_rfl) (by simp) ?_
              refine AllReadyIn.cons rfl (fun K hK => ?_) ?_
              · skip
                go_simp
                refine hK _ _ ?_
                clear hK K
                refine wpAnyIn_ready (rs := [3]) (by kernel_rfl) (by simp) ?_
                refine AllReadyIn.cons rfl (fun K hK => ?_) ?_
                · skip
                  go_simp
                  refine hK _ _ ?_
                  clear hK K
                  refine wpAnyIn_ready (rs := [4]) (by kernel_rfl) (by simp) ?_
                  refine AllReadyIn.cons rfl (fun K hK => ?_) ?_
                  · skip
                    go_simp
                    refine ⟨trivial, ?_⟩
                    refine (CallsIn.inRound l (callsIn_wide.2 (HM.out _ _ (SlI.lit2 (x := ⟨x0, ⟨x1, x2, x3, x4⟩, ⟨x5, x6, x7, x8⟩⟩) (y := ⟨y0, ⟨y1, y2, y3, y4⟩, ⟨y5, y6, y7, y8⟩⟩) (Blk.new W _ _).drew (by simp))))).mono ?_
                    rintro e w9 ⟨rfl, hb⟩
                    refine hK _ _ ?_
                    clear hK K
                    have j1 := ((I1.out.alloc (.cells #[.bool x0, .int .i64 x1, .bool x2, .int .u64 x3, .int .i64 x4, .int .i64 x5, .bool x6, .int .u64 x7, .int .i64 x8, .bool y0, .int .i64 y1, .bool y2, .int .u64 y3, .int .i64 y4, .int .i64 y5, .bool y6, .int .u64 y7, .int .i64 y8] 26)).drew).call hb
                    obtain ⟨g0, gf0⟩ := j1.c1
                    have J1 := Lib.hid j1
                    have J2 := Lib.hid (((I2.out.alloc (.cells #[.bool x0, .int .i64 x1, .bool x2, .int .u64 x3, .int .i64 x4, .int .i64 x5, .bool x6, .int .u64 x7, .int .i64 x8, .bool y0, .int .i64 y1, .bool y2, .int .u64 y3, .int .i64 y4, .int .i64 y5, .bool y6, .int .u64 y7, .int .i64 y8] 26)).drew).call hb)
                    have hLw := j1.lt
                    have Hb := Lib.hid hb
                    clear hb j1
                    refine wpAnyIn_ready (rs := [5]) (by kernel_rfl) (by simp) ?_
                    refine AllReadyIn.cons rfl (fun K hK => ?_) ?_
                    · skip
                      go_simp
                      refine hK _ _ ?_
                      clear hK K
                      refine wpAnyIn_ready (rs := [6]) (by kernel_rfl) (by simp) ?_
                      refine AllReadyIn.cons rfl (fun K hK => ?_) ?_
                      · skip
                        refine stepIn_appI (by rfl) (.tmp 29) (.tmp 34) (by rfl) w2.heap.size v L (by rfl) (J2.out.alloc (.cells #[.bool r0, .int .i64 r1, .bool r2, .int .u64 r3, .int .i64 r4, .int .i64 r5, .bool r6, .int .u64 r7, .int .i64 r8] 26)) (w9.heap.size + 1) ⟨w9.heap.size, 0, none⟩ 1 1 [⟨r0, ⟨r1, r2, r3, r4⟩, ⟨r5, r6, r7, r8⟩⟩] (by rfl) (SlI.lit1 (Blk.new w9 _ _) (by omega)) (by omega) (by simp; omega) ?_
                        intro v3 w3 O3 hg3 hat3
                        obtain ⟨A3, n3, c3, rfl⟩ := O3.form
                        refine hK _ _ ?_
                        clear hK K
                        have k1 := (J1.out.alloc (.cells #[.bool r0, .int .i64 r1, .bool r2, .int .u64 r3, .int .i64 r4, .int .i64 r5, .bool r6, .int .u64 r7, .int .i64 r8] 26)).grown hg3 (fun e => by have := I3.out _ e.symm; omega)
                        obtain ⟨h0, hf0⟩ := k1.c1
                        have K1 := Lib.hid k1
                        have O3' := Lib.hid O3
                        have Hg3 := Lib.hid hg3
                        have Hat := Lib.hid hat3
                        clear O3 hg3 hat3 k1
                        refine wpAnyIn_ready (rs := [7]) (by kernel_rfl) (by simp) ?_
                        refine AllReadyIn.cons rfl (fun K hK => ?_) ?_
                        · skip
                          go_simp
                          refine hK _ _ ?_
                          clear hK K
                          refine wpAnyIn_done (by kernel_rfl) ?_ _
                          have FIN := app_round (B' := W0.heap.size) hN2 hB I1.out I2.out I3.out i4 i5 Hb.out O3'.out Hg3.out Hat.out
                          rw [← Hsn.out] at FIN
                          gi_wp2
                          exact FIN
                        exact AllReadyIn.nil
                      exact AllReadyIn.nil
                    exact AllReadyIn.nil
                  exact AllReadyIn.nil
                exact AllReadyIn.nil
              exact AllReadyIn.nil
            refine AllReadyIn.cons rfl (fun K hK => ?_) ?_
            · skip
              go_simp
              refine hK _ _ ?_
              clear hK K
              refine wpAnyIn_ready (rs := [1]) (by kernel_rfl) (by simp) ?_
              refine AllReadyIn.cons rfl (fun K hK => ?_) ?_
              · skip
                go_simp
                refine hK _ _ ?_
                clear hK K
                refine wpAnyIn_ready (rs := [3]) (by kernel_rfl) (by simp) ?_
                refine AllReadyIn.cons rfl (fun K hK => ?_) ?_
                · skip
                  go_simp
                  refine hK _ _ ?_
                  clear hK K
                  refine wpAnyIn_ready (rs := [4]) (by kernel_rfl) (by simp) ?_
                  refine AllReadyIn.cons rfl (fun K hK => ?_) ?_
                  · skip
                    go_simp
                    refine ⟨trivial, ?_⟩
                    refine (CallsIn.inRound l (callsIn_wide.2 (HM.out _ _ (SlI.lit2 (x := ⟨x0, ⟨x1, x2, x3, x4⟩, ⟨x5, x6, x7, x8⟩⟩) (y := ⟨y0, ⟨y1, y2, y3, y4⟩, ⟨y5, y6, y7, y8⟩⟩) (Blk.new W _ _).drew (by simp))))).mono ?_
                    rintro e w9 ⟨rfl, hb⟩
                    refine hK _ _ ?_
                    clear hK K
                    have j1 := ((I1.out.alloc (.cells #[.bool x0, .int .i64 x1, .bool x2, .int .u64 x3, .int .i64 x4, .int .i64 x5, .bool x6, .int .u64 x7, .int .i64 x8, .bool y0, .int .i64 y1, .bool y2, .int .u64 y3, .int .i64 y4, .int .i64 y5, .bool y6, .int .u64 y7, .int .i64 y8] 26)).drew).call hb
                    obtain ⟨g0, gf0⟩ := j1.c1
                    have J1 := Lib.hid j1
                    have J2 := Lib.hid (((I2.out.alloc (.cells #[.bool x0, .int .i64 x1, .bool x2, .int .u64 x3, .int .i64 x4, .int .i64 x5, .bool x6, .int .u64 x7, .int .i64 x8, .bool y0, .int .i64 y1, .bool y2, .int .u64 y3, .int .i64 y4, .int .i64 y5, .bool y6, .int .u64 y7, .int .i64 y8] 26)).drew).call hb)
                    have hLw := j1.lt
                    have Hb := Lib.hid hb
                    clear hb j1
                    refine wpAnyIn_ready (rs := [5]) (by kernel_rfl) (by simp) ?_
                    refine AllReadyIn.cons rfl (fun K hK => ?_) ?_
                    · skip
                      go_simp
                      refine hK _ _ ?_
                      clear hK K
                      refine wpAnyIn_ready (rs := [6]) (by kernel_rfl) (by simp) ?_
                      refine AllReadyIn.cons rfl (fun K hK => ?_) ?_
                      · skip
                        refine stepIn_appI (by rfl) (.tmp 29) (.tmp 34) (by rfl) w2.heap.size v L (by rfl) (J2.out.alloc (.cells #[.bool r0, .int .i64 r1, .bool r2, .int .u64 r3, .int .i64 r4, .int .i64 r5, .bool r6, .int .u64 r7, .int .i64 r8] 26)) (w9.heap.size + 1) ⟨w9.heap.size, 0, none⟩ 1 1 [⟨r0, ⟨r1, r2, r3, r4⟩, ⟨r5, r6, r7, r8⟩⟩] (by rfl) (SlI.lit1 (Blk.new w9 _ _) (by omega)) (by omega) (by simp; omega) ?_
                        intro v3 w3 O3 hg3 hat3
                        obtain ⟨A3, n3, c3, rfl⟩ := O3.form
                        refine hK _ _ ?_
                        clear hK K
                        have k1 := (J1.out.alloc (.cells #[.bool r0, .int .i64 r1, .bool r2, .int .u64 r3, .int .i64 r4, .int .i64 r5, .bool r6, .int .u64 r7, .int .i64 r8] 26)).grown hg3 (fun e => by have := I3.out _ e.symm; omega)
                        obtain ⟨h0, hf0⟩ := k1.c1
                        have K1 := Lib.hid k1
                        have O3' := Lib.hid O3
                        have Hg3 := Lib.hid hg3
                        have Hat := Lib.hid hat3
                        clear O3 hg3 hat3 k1
                        refine wpAnyIn_ready (rs := [7]) (by kernel_rfl) (by simp) ?_
                        refine AllReadyIn.cons rfl (fun K hK => ?_) ?_
                        · skip
                          go_simp
                          refine hK _ _ ?_
                          clear hK K
                          refine wpAnyIn_done (by kernel_rfl) ?_ _
                          have FIN := app_round (B' := W0.heap.size) hN2 hB I1.out I2.out I3.out i4 i5 Hb.out O3'.out Hg3.out Hat.out
                          rw [← Hsn.out] at FIN
                          gi_wp2
                          exact FIN
                        exact AllReadyIn.nil
                      exact AllReadyIn.nil
                    exact AllReadyIn.nil
                  exact AllReadyIn.nil
                exact AllReadyIn.nil
              exact AllReadyIn.nil
            exact AllReadyIn.nil
          refine AllReadyIn.cons rfl (fun K hK => ?_) ?_
          · skip
            go_simp
            refine hK _ _ ?_
            clear hK K
            refine wpAnyIn_ready (rs := [0, 2]) (by kernel_rfl) (by simp) ?_
            refine AllReadyIn.cons rfl (fun K hK => ?_) ?_
            · skip
              go_simp
              refine hK _ _ ?_
              clear hK K
              refine wpAnyIn_ready (rs := [2]) (by kernel_rfl) (by simp) ?_
              refine AllReadyIn.cons rfl (fun K hK => ?_) ?_
              · skip
                go_simp
                refine hK _ _ ?_
                clear hK K
                refine wpAnyIn_ready (rs := [3]) (by kernel_rfl) (by simp) ?_
                refine AllReadyIn.cons rfl (fun K hK => ?_) ?_
                · skip
                  go_simp
                  refine hK _ _ ?_
                  clear hK K
                  refine wpAnyIn_ready (rs := [4]) (by kernel_rfl) (by simp) ?_
                  refine AllReadyIn.cons rfl (fun K hK => ?_) ?_
                  · skip
                    go_simp
                    refine ⟨trivial, ?_⟩
                    refine (CallsIn.inRound l (callsIn_wide.2 (HM.out _ _ (SlI.lit2 (x := ⟨x0, ⟨x1, x2, x3, x4⟩, ⟨x5, x6, x7, x8⟩⟩) (y := ⟨y0, ⟨y1, y2, y3, y4⟩, ⟨y5, y6, y7, y8⟩⟩) (Blk.new W _ _).drew (by simp))))).mono ?_
                    rintro e w9 ⟨rfl, hb⟩
                    refine hK _ _ ?_
                    clear hK K
                    have j1 := ((I1.out.alloc (.cells #[.bool x0, .int .i64 x1, .bool x2, .int .u64 x3, .int .i64 x4, .int .i64 x5, .bool x6, .int .u64 x7, .int .i64 x8, .bool y0, .int .i64 y1, .bool y2, .int .u64 y3, .int .i64 y4, .int .i64 y5, .bool y6, .int .u64 y7, .int .i64 y8] 26)).drew).call hb
                    obtain ⟨g0, gf0⟩ := j1.c1
                    have J1 := Lib.hid j1
                    have J2 := Lib.hid (((I2.out.alloc (.cells #[.bool x0, .int .i64 x1, .bool x2, .int .u64 x3, .int .i64 x4, .int .i64 x5, .bool x6, .int .u64 x7, .int .i64 x8, .bool y0, .int .i64 y1, .bool y2, .int .u64 y3, .int .i64 y4, .int .i64 y5, .bool y6, .int .u64 y7, .int .i64 y8] 26)).drew).call hb)
                    have hLw := j1.lt
                    have Hb := Lib.hid hb
                    clear hb j1
                    refine wpAnyIn_ready (rs := [5]) (by kernel_rfl) (by simp) ?_
                    refine AllReadyIn.cons rfl (fun K hK => ?_) ?_
                    · skip
                      go_simp
                      refine hK _ _ ?_
                      clear hK K
                      refine wpAnyIn_ready (rs := [6]) (by kernel_rfl) (by simp) ?_
                      refine AllReadyIn.cons rfl (fun K hK => ?_) ?_
                      · skip
                        refine stepIn_appI (by rfl) (.tmp 29) (.tmp 34) (by rfl) w2.heap.size v L (by rfl) (J2.out.alloc (.cells #[.bool r0, .int .i64 r1, .bool r2, .int .u64 r3, .int .i64 r4, .int .i64 r5, .bool r6, .int .u64 r7, .int .i64 r8] 26)) (w9.heap.size + 1) ⟨w9.heap.size, 0, none⟩ 1 1 [⟨r0, ⟨r1, r2, r3, r4⟩, ⟨r5, r6, r7, r8⟩⟩] (by rfl) (SlI.lit1 (Blk.new w9 _ _) (by omega)) (by omega) (by simp; omega) ?_
                        intro v3 w3 O3 hg3 hat3
                        obtain ⟨A3, n3, c3, rfl⟩ := O3.form
                        refine hK _ _ ?_
                        clear hK K
                        have k1 := (J1.out.alloc (.cells #[.bool r0, .int .i64 r1, .bool r2, .int .u64 r3, .int .i64 r4, .int .i64 r5, .bool r6, .int .u64 r7, .int .i64 r8] 26)).grown hg3 (fun e => by have := I3.out _ e.symm; omega)
                        obtain ⟨h0, hf0⟩ := k1.c1
                        have K1 := Lib.hid k1
                        have O3' := Lib.hid O3
                        have Hg3 := Lib.hid hg3
                        have Hat := Lib.hid hat3
                        clear O3 hg3 hat3 k1
                        refine wpAnyIn_ready (rs := [7]) (by kernel_rfl) (by simp) ?_
                        refine AllReadyIn.cons rfl (fun K hK => ?_) ?_
                        · skip
                          go_simp
                          refine hK _ _ ?_
                          clear hK K
                          refine wpAnyIn_done (by kernel_rfl) ?_ _
                          have FIN := app_round (B' := W0.heap.size) hN2 hB I1.out I2.out I3.out i4 i5 Hb.out O3'.out Hg3.out Hat.out
                          rw [← Hsn.out] at FIN
                          gi_wp2
                          exact FIN
                        exact AllReadyIn.nil
                      exact AllReadyIn.nil
                    exact AllReadyIn.nil
                  exact AllReadyIn.nil
                exact AllReadyIn.nil
              exact AllReadyIn.nil
            refine AllReadyIn.cons rfl (fun K hK => ?_) ?_
            · skip
              go_simp
              refine hK _ _ ?_
              clear hK K
              refine wpAnyIn_ready (rs := [0, 3]) (by kernel_rfl) (by simp) ?_
              refine AllReadyIn.cons rfl (fun K hK => ?_) ?_
              · skip
                go_simp
                refine hK _ _ ?_
                clear hK K
                refine wpAnyIn_ready (rs := [3]) (by kernel_rfl) (by simp) ?_
                refine AllReadyIn.cons rfl (fun K hK => ?_) ?_
                · skip
                  go_simp
                  refine hK _ _ ?_
                  clear hK K
                  refine wpAnyIn_ready (rs := [4]) (by kernel_rfl) (by simp) ?_
                  refine AllReadyIn.cons rfl (fun K hK => ?_) ?_
                  · skip
                    go_simp
                    refine ⟨trivial, ?_⟩
                    refine (CallsIn.inRound l (callsIn_wide.2 (HM.out _ _ (SlI.lit2 (x := ⟨x0, ⟨x1, x2, x3, x4⟩, ⟨x5, x6, x7, x8⟩⟩) (y := ⟨y0, ⟨y1, y2, y3, y4⟩, ⟨y5, y6, y7, y8⟩⟩) (Blk.new W _ _).drew (by simp))))).mono ?_
                    rintro e w9 ⟨rfl, hb⟩
                    refine hK _ _ ?_
                    clear hK K
                    have j1 := ((I1.out.alloc (.cells #[.bool x0, .int .i64 x1, .bool x2, .int .u64 x3, .int .i64 x4, .int .i64 x5, .bool x6, .int .u64 x7, .int .i64 x8, .bool y0, .int .i64 y1, .bool y2, .int .u64 y3, .int .i64 y4, .int .i64 y5, .bool y6, .int .u64 y7, .int .i64 y8] 26)).drew).call hb
                    obtain ⟨g0, gf0⟩ := j1.c1
                    have J1 := Lib.hid j1
                    have J2 := Lib.hid (((I2.out.alloc (.cells #[.bool x0, .int .i64 x1, .bool x2, .int .u64 x3, .int .i64 x4, .int .i64 x5, .bool x6, .int .u64 x7, .int .i64 x8, .bool y0, .int .i64 y1, .bool y2, .int .u64 y3, .int .i64 y4, .int .i64 y5, .bool y6, .int .u64 y7, .int .i64 y8] 26)).drew).call hb)
                    have hLw := j1.lt
                    have Hb := Lib.hid hb
                    clear hb j1
                    refine wpAnyIn_ready (rs := [5]) (by kernel_rfl) (by simp) ?_
                    refine AllReadyIn.cons rfl (fun K hK => ?_) ?_
                    · skip
                      go_simp
                      refine hK _ _ ?_
                      clear hK K
                      refine wpAnyIn_ready (rs := [6]) (by kernel_rfl) (by simp) ?_
                      refine AllReadyIn.cons rfl (fun K hK => ?_) ?_
                      · skip
                        refine stepIn_appI (by rfl) (.tmp 29) (.tmp 34) (by rfl) w2.heap.size v L (by rfl) (J2.out.alloc (.cells #[.bool r0, .int .i64 r1, .bool r2, .int .u64 r3, .int .i64 r4, .int .i64 r5, .bool r6, .int .u64 r7, .int .i64 r8] 26)) (w9.heap.size + 1) ⟨w9.heap.size, 0, none⟩ 1 1 [⟨r0, ⟨r1, r2, r3, r4⟩, ⟨r5, r6, r7, r8⟩⟩] (by rfl) (SlI.lit1 (Blk.new w9 _ _) (by omega)) (by omega) (by simp; omega) ?_
                        intro v3 w3 O3 hg3 hat3
                        obtain ⟨A3, n3, c3, rfl⟩ := O3.form
                        refine hK _ _ ?_
                        clear hK K
                        have k1 := (J1.out.alloc (.cells #[.bool r0, .int .i64 r1, .bool r2, .int .u64 r3, .int .i64 r4, .int .i64 r5, .bool r6, .int .u64 r7, .int .i64 r8] 26)).grown hg3 (fun e => by have := I3.out _ e.symm; omega)
                        obtain ⟨h0, hf0⟩ := k1.c1
                        have K1 := Lib.hid k1
                        have O3' := Lib.hid O3
                        have Hg3 := Lib.hid hg3
                        have Hat := Lib.hid hat3
                        clear O3 hg3 hat3 k1
                        refine wpAnyIn_ready (rs := [7]) (by kernel_rfl) (by simp) ?_
                        refine AllReadyIn.cons rfl (fun K hK => ?_) ?_
                        · skip
                          go_simp
                          refine hK _ _ ?_
                          clear hK K
                          refine wpAnyIn_done (by kernel_rfl) ?_ _
                          have FIN := app_round (B' := W0.heap.size) hN2 hB I1.out I2.out I3.out i4 i5 Hb.out O3'.out Hg3.out Hat.out
                          rw [← Hsn.out] at FIN
                          gi_wp2
                          exact FIN
                        exact AllReadyIn.nil
                      exact AllReadyIn.nil
                    exact AllReadyIn.nil
                  exact AllReadyIn.nil
                exact AllReadyIn.nil
              refine AllReadyIn.cons rfl (fun K hK => ?_) ?_
              · skip
                go_simp
                refine hK _ _ ?_
                clear hK K
                refine wpAnyIn_ready (rs := [0, 4]) (by kernel_rfl) (by simp) ?_
                refine AllReadyIn.cons rfl (fun K hK => ?_) ?_
                · skip
                  go_simp
                  refine hK _ _ ?_
                  clear hK K
                  refine wpAnyIn_ready (rs := [4]) (by kernel_rfl) (by simp) ?_
                  refine AllReadyIn.cons rfl (fun K hK => ?_) ?_
                  · skip
                    go_simp
                    refine ⟨trivial, ?_⟩
                    refine (CallsIn.inRound l (callsIn_wide.2 (HM.out _ _ (SlI.lit2 (x := ⟨x0, ⟨x1, x2, x3, x4⟩, ⟨x5, x6, x7, x8⟩⟩) (y := ⟨y0, ⟨y1, y2, y3, y4⟩, ⟨y5, y6, y7, y8⟩⟩) (Blk.new W _ _).drew (by simp))))).mono ?_
                    rintro e w9 ⟨rfl, hb⟩
                    refine hK _ _ ?_
                    clear hK K
                    have j1 := ((I1.out.alloc (.cells #[.bool x0, .int .i64 x1, .bool x2, .int .u64 x3, .int .i64 x4, .int .i64 x5, .bool x6, .int .u64 x7, .int .i64 x8, .bool y0, .int .i64 y1, .bool y2, .int .u64 y3, .int .i64 y4, .int .i64 y5, .bool y6, .int .u64 y7, .int .i64 y8] 26)).drew).call hb
                    obtain ⟨g0, gf0⟩ := j1.c1
                    have J1 := Lib.hid j1
                    have J2 := Lib.hid (((I2.out.alloc (.cells #[.bool x0, .int .i64 x1, .bool x2, .int .u64 x3, .int .i64 x4, .int .i64 x5, .bool x6, .int .u64 x7, .int .i64 x8, .bool y0, .int .i64 y1, .bool y2, .int .u64 y3, .int .i64 y4, .int .i64 y5, .bool y6, .int .u64 y7, .int .i64 y8] 26)).drew).call hb)
                    have hLw := j1.lt
                    have Hb := Lib.hid hb
                    clear hb j1
                    refine wpAnyIn_ready (rs := [5]) (by kernel_rfl) (by simp) ?_
                    refine AllReadyIn.cons rfl (fun K hK => ?_) ?_
                    · skip
                      go_simp
                      refine hK _ _ ?_
                      clear hK K
                      refine wpAnyIn_ready (rs := [6]) (by kernel_rfl) (by simp) ?_
                      refine AllReadyIn.cons rfl (fun K hK => ?_) ?_
                      · skip
                        refine stepIn_appI (by rfl) (.tmp 29) (.tmp 34) (by rfl) w2.heap.size v L (by rfl) (J2.out.alloc (.cells #[.bool r0, .int .i64 r1, .bool r2, .int .u64 r3, .int .i64 r4, .int .i64 r5, .bool r6, .int .u64 r7, .int .i64 r8] 26)) (w9.heap.size + 1) ⟨w9.heap.size, 0, none⟩ 1 1 [⟨r0, ⟨r1, r2, r3, r4⟩, ⟨r5, r6, r7, r8⟩⟩] (by rfl) (SlI.lit1 (Blk.new w9 _ _) (by omega)) (by omega) (by simp; omega) ?_
                        intro v3 w3 O3 hg3 hat3
                        obtain ⟨A3, n3, c3, rfl⟩ := O3.form
                        refine hK _ _ ?_
                        clear hK K
                        have k1 := (J1.out.alloc (.cells #[.bool r0, .int .i64 r1, .bool r2, .int .u64 r3, .int .i64 r4, .int .i64 r5, .bool r6, .int .u64 r7, .int .i64 r8] 26)).grown hg3 (fun e => by have := I3.out _ e.symm; omega)
                        obtain ⟨h0, hf0⟩ := k1.c1
                        have K1 := Lib.hid k1
                        have O3' := Lib.hid O3
                        have Hg3 := Lib.hid hg3
                        have Hat := Lib.hid hat3
                        clear O3 hg3 hat3 k1
                        refine wpAnyIn_ready (rs := [7]) (by kernel_rfl) (by simp) ?_
                        refine AllReadyIn.cons rfl (fun K hK => ?_) ?_
                        · skip
                          go_simp
                          refine hK _ _ ?_
                          clear hK K
                          refine wpAnyIn_done (by kernel_rfl) ?_ _
                          have FIN := app_round (B' := W0.heap.size) hN2 hB I1.out I2.out I3.out i4 i5 Hb.out O3'.out Hg3.out Hat.out
                          rw [← Hsn.out] at FIN
                          gi_wp2
                          exact FIN
                        exact AllReadyIn.nil
                      exact AllReadyIn.nil
                    exact AllReadyIn.nil
                  exact AllReadyIn.nil
                refine AllReadyIn.cons rfl (fun K hK => ?_) ?_
                · skip
                  go_simp
                  refine ⟨trivial, ?_⟩
                  refine (CallsIn.inRound l (callsIn_wide.2 (HM.out _ _ (SlI.lit2 (x := ⟨x0, ⟨x1, x2, x3, x4⟩, ⟨x5, x6, x7, x8⟩⟩) (y := ⟨y0, ⟨y1, y2, y3, y4⟩, ⟨y5, y6, y7, y8⟩⟩) (Blk.new W _ _).drew (by simp))))).mono ?_
                  rintro e w9 ⟨rfl, hb⟩
                  refine hK _ _ ?_
                  clear hK K
                  have j1 := ((I1.out.alloc (.cells #[.bool x0, .int .i64 x1, .bool x2, .int .u64 x3, .int .i64 x4, .int .i64 x5, .bool x6, .int .u64 x7, .int .i64 x8, .bool y0, .int .i64 y1, .bool y2, .int .u64 y3, .int .i64 y4, .int .i64 y5, .bool y6, .int .u64 y7, .int .i64 y8] 26)).drew).call hb
                  obtain ⟨g0, gf0⟩ := j1.c1
                  have J1 := Lib.hid j1
                  have J2 := Lib.hid (((I2.out.alloc (.cells #[.bool x0, .int .i64 x1, .bool x2, .int .u64 x3, .int .i64 x4, .int .i64 x5, .bool x6, .int .u64 x7, .int .i64 x8, .bool y0, .int .i64 y1, .bool y2, .int .u64 y3, .int .i64 y4, .int .i64 y5, .bool y6, .int .u64 y7, .int .i64 y8] 26)).drew).call hb)
                  have hLw := j1.lt
                  have Hb := Lib.hid hb
                  clear hb j1
                  refine wpAnyIn_ready (rs := [0, 5]) (by kernel_rfl) (by simp) ?_
                  refine AllReadyIn.cons rfl (fun K hK => ?_) ?_
                  · skip
                    go_simp
                    refine hK _ _ ?_
                    clear hK K
                    refine wpAnyIn_ready (rs := [5]) (by kernel_rfl) (by simp) ?_
                    refine AllReadyIn.cons rfl (fun K hK => ?_) ?_
                    · skip
                      go_simp
                      refine hK _ _ ?_
                      clear hK K
                      refine wpAnyIn_ready (rs := [6]) (by kernel_rfl) (by simp) ?_
                      refine AllReadyIn.cons rfl (fun K hK => ?_) ?_
                      · skip
                        refine stepIn_appI (by rfl) (.tmp 29) (.tmp 34) (by rfl) w2.heap.size v L (by rfl) (J2.out.alloc (.cells #[.bool r0, .int .i64 r1, .bool r2, .int .u64 r3, .int .i64 r4, .int .i64 r5, .bool r6, .int .u64 r7, .int .i64 r8] 26)) (w9.heap.size + 1) ⟨w9.heap.size, 0, none⟩ 1 1 [⟨r0, ⟨r1, r2, r3, r4⟩, ⟨r5, r6, r7, r8⟩⟩] (by rfl) (SlI.lit1 (Blk.new w9 _ _) (by omega)) (by omega) (by simp; omega) ?_
                        intro v3 w3 O3 hg3 hat3
                        obtain ⟨A3, n3, c3, rfl⟩ := O3.form
                        refine hK _ _ ?_
                        clear hK K
                        have k1 := (J1.out.alloc (.cells #[.bool r0, .int .i64 r1, .bool r2, .int .u64 r3, .int .i64 r4, .int .i64 r5, .bool r6, .int .u64 r7, .int .i64 r8] 26)).grown hg3 (fun e => by have := I3.out _ e.symm; omega)
                        obtain ⟨h0, hf0⟩ := k1.c1
                        have K1 := Lib.hid k1
                        have O3' := Lib.hid O3
                        have Hg3 := Lib.hid hg3
                        have Hat := Lib.hid hat3
                        clear O3 hg3 hat3 k1
                        refine wpAnyIn_ready (rs := [7]) (by kernel_rfl) (by simp) ?_
                        refine AllReadyIn.cons rfl (fun K hK => ?_) ?_
                        · skip
                          go_simp
                          refine hK _ _ ?_
                          clear hK K
                          refine wpAnyIn_done (by kernel_rfl) ?_ _
                          have FIN := app_round (B' := W0.heap.size) hN2 hB I1.out I2.out I3.out i4 i5 Hb.out O3'.out Hg3.out Hat.out
                          rw [← Hsn.out] at FIN
                          gi_wp2
                          exact FIN
                        exact AllReadyIn.nil
                      exact AllReadyIn.nil
                    exact AllReadyIn.nil
                  refine AllReadyIn.cons rfl (fun K hK => ?_) ?_
                  · skip
                    go_simp
                    refine hK _ _ ?_
                    clear hK K
                    refine wpAnyIn_ready (rs := [0]) (by kernel_rfl) (by simp) ?_
                    refine AllReadyIn.cons rfl (fun K hK => ?_) ?_
                    · skip
                      go_simp
                      refine hK _ _ ?_
                      clear hK K
                      refine wpAnyIn_ready (rs := [6]) (by kernel_rfl) (by simp) ?_
                      refine AllReadyIn.cons rfl (fun K hK => ?_) ?_
                      · skip
                        refine stepIn_appI (by rfl) (.tmp 29) (.tmp 34) (by rfl) w2.heap.size v L (by rfl) (J2.out.alloc (.cells #[.bool r0, .int .i64 r1, .bool r2, .int .u64 r3, .int .i64 r4, .int .i64 r5, .bool r6, .int .u64 r7, .int .i64 r8] 26)) (w9.heap.size + 1) ⟨w9.heap.size, 0, none⟩ 1 1 [⟨r0, ⟨r1, r2, r3, r4⟩, ⟨r5, r6, r7, r8⟩⟩] (by rfl) (SlI.lit1 (Blk.new w9 _ _) (by omega)) (by omega) (by simp; omega) ?_
                        intro v3 w3 O3 hg3 hat3
                        obtain ⟨A3, n3, c3, rfl⟩ := O3.form
                        refine hK _ _ ?_
                        clear hK K
                        have k1 := (J1.out.alloc (.cells #[.bool r0, .int .i64 r1, .bool r2, .int .u64 r3, .int .i64 r4, .int .i64 r5, .bool r6, .int .u64 r7, .int .i64 r8] 26)).grown hg3 (fun e => by have := I3.out _ e.symm; omega)
                        obtain ⟨h0, hf0⟩ := k1.c1
                        have K1 := Lib.hid k1
                        have O3' := Lib.hid O3
                        have Hg3 := Lib.hid hg3
                        have Hat := Lib.hid hat3
                        clear O3 hg3 hat3 k1
                        refine wpAnyIn_ready (rs := [7]) (by kernel_rfl) (by simp) ?_
                        refine AllReadyIn.cons rfl (fun K hK => ?_) ?_
                        · skip
                          go_simp
                          refine hK _ _ ?_
                          clear hK K
                          refine wpAnyIn_done (by kernel_rfl) ?_ _
                          have FIN := app_round (B' := W0.heap.size) hN2 hB I1.out I2.out I3.out i4 i5 Hb.out O3'.out Hg3.out Hat.out
                          rw [← Hsn.out] at FIN
                          gi_wp2
                          exact FIN
                        exact AllReadyIn.nil
                      exact AllReadyIn.nil
                    exact AllReadyIn.nil
                  exact AllReadyIn.nil
                exact AllReadyIn.nil
              exact AllReadyIn.nil
            exact AllReadyIn.nil
          refine AllReadyIn.cons rfl (fun K hK => ?_) ?_
          · skip
            go_simp
            refine hK _ _ ?_
            clear hK K
            refine wpAnyIn_ready (rs := [0, 1]) (by kernel_rfl) (by simp) ?_
            refine AllReadyIn.cons rfl (fun K hK => ?_) ?_
            · skip
              go_simp
              refine hK _ _ ?_
              clear hK K
              refine wpAnyIn_ready (rs := [1]) (by kernel_rfl) (by simp) ?_
              refine AllReadyIn.cons rfl (fun K hK => ?_) ?_
              · skip
                go_simp
                refine hK _ _ ?_
                clear hK K
                refine wpAnyIn_ready (rs := [3]) (by kernel_rfl) (by simp) ?_
                refine AllReadyIn.cons rfl (fun K hK => ?_) ?_
                · skip
                  go_simp
                  refine hK _ _ ?_
                  clear hK K
                  refine wpAnyIn_ready (rs := [4]) (by kernel_rfl) (by simp) ?_
                  refine AllReadyIn.cons rfl (fun K hK => ?_) ?_
                  · skip
                    go_simp
                    refine ⟨trivial, ?_⟩
                    refine (CallsIn.inRound l (callsIn_wide.2 (HM.out _ _ (SlI.lit2 (x := ⟨x0, ⟨x1, x2, x3, x4⟩, ⟨x5, x6, x7, x8⟩⟩) (y := ⟨y0, ⟨y1, y2, y3, y4⟩, ⟨y5, y6, y7, y8⟩⟩) (Blk.new W _ _).drew (by simp))))).mono ?_
                    rintro e w9 ⟨rfl, hb⟩
                    refine hK _ _ ?_
                    clear hK K
                    have j1 := ((I1.out.alloc (.cells #[.bool x0, .int .i64 x1, .bool x2, .int .u64 x3, .int .i64 x4, .int .i64 x5, .bool x6, .int .u64 x7, .int .i64 x8, .bool y0, .int .i64 y1, .bool y2, .int .u64 y3, .int .i64 y4, .int .i64 y5, .bool y6, .int .u64 y7, .int .i64 y8] 26)).drew).call hb
                    obtain ⟨g0, gf0⟩ := j1.c1
                    have J1 := Lib.hid j1
                    have J2 := Lib.hid (((I2.out.alloc (.cells #[.bool x0, .int .i64 x1, .bool x2, .int .u64 x3, .int .i64 x4, .int .i64 x5, .bool x6, .int .u64 x7, .int .i64 x8, .bool y0, .int .i64 y1, .bool y2, .int .u64 y3, .int .i64 y4, .int .i64 y5, .bool y6, .int .u64 y7, .int .i64 y8] 26)).drew).call hb)
                    have hLw := j1.lt
                    have Hb := Lib.hid hb
                    clear hb j1
                    refine wpAnyIn_ready (rs := [5]) (by kernel_rfl) (by simp) ?_
                    refine AllReadyIn.cons rfl (fun K hK => ?_) ?_
                    · skip
                      go_simp
                      refine hK _ _ ?_
                      clear hK K
                      refine wpAnyIn_ready (rs := [6]) (by kernel_rfl) (by simp) ?_
                      refine AllReadyIn.cons rfl (fun K hK => ?_) ?_
                      · skip
                        refine stepIn_appI (by rfl) (.tmp 29) (.tmp 34) (by rfl) w2.heap.size v L (by rfl) (J2.out.alloc (.cells #[.bool r0, .int .i64 r1, .bool r2, .int .u64 r3, .int .i64 r4, .int .i64 r5, .bool r6, .int .u64 r7, .int .i64 r8] 26)) (w9.heap.size + 1) ⟨w9.heap.size, 0, none⟩ 1 1 [⟨r0, ⟨r1, r2, r3, r4⟩, ⟨r5, r6, r7, r8⟩⟩] (by rfl) (SlI.lit1 (Blk.new w9 _ _) (by omega)) (by omega) (by simp; omega) ?_
                        intro v3 w3 O3 hg3 hat3
                        obtain ⟨A3, n3, c3, rfl⟩ := O3.form
                        refine hK _ _ ?_
                        clear hK K
                        have k1 := (J1.out.alloc (.cells #[.bool r0, .int .i64 r1, .bool r2, .int .u64 r3, .int .i64 r4, .int .i64 r5, .bool r6, .int .u64 r7, .int .i64 r8] 26)).grown hg3 (fun e => by have := I3.out _ e.symm; omega)
                        obtain ⟨h0, hf0⟩ := k1.c1
                        have K1 := Lib.hid k1
                        have O3' := Lib.hid O3
                        have Hg3 := Lib.hid hg3
                        have Hat := Lib.hid hat3
                        clear O3 hg3 hat3 k1
                        refine wpAnyIn_ready (rs := [7]) (by kernel_rfl) (by simp) ?_
                        refine AllReadyIn.cons rfl (fun K hK => ?_) ?_
                        · skip
                          go_simp
                          refine hK _ _ ?_
                          clear hK K
                          refine wpAnyIn_done (by kernel_rfl) ?_ _
                          have FIN := app_round (B' := W0.heap.size) hN2 hB I1.out I2.out I3.out i4 i5 Hb.out O3'.out Hg3.out Hat.out
                          rw [← Hsn.out] at FIN
                          gi_wp2
                          exact FIN
                        exact AllReadyIn.nil
                      exact AllReadyIn.nil
                    exact AllReadyIn.nil
                  exact AllReadyIn.nil
                exact AllReadyIn.nil
              exact AllReadyIn.nil
            refine AllReadyIn.cons rfl (fun K hK => ?_) ?_
            · skip
              go_simp
              refine hK _ _ ?_
              clear hK K
              refine wpAnyIn_ready (rs := [0, 3]) (by kernel_rfl) (by simp) ?_
              refine AllReadyIn.cons rfl (fun K hK => ?_) ?_
              · skip
                go_simp
                refine hK _ _ ?_
                clear hK K
                refine wpAnyIn_ready (rs := [3]) (by kernel_rfl) (by simp) ?_
                refine AllReadyIn.cons rfl (fun K hK => ?_) ?_
                · skip
                  go_simp
                  refine hK _ _ ?_
                  clear hK K
                  refine wpAnyIn_ready (rs := [4]) (by kernel_rfl) (by simp) ?_
                  refine AllReadyIn.cons rfl (fun K hK => ?_) ?_
                  · skip
                    go_simp
                    refine ⟨trivial, ?_⟩
                    refine (CallsIn.inRound l (callsIn_wide.2 (HM.out _ _ (SlI.lit2 (x := ⟨x0, ⟨x1, x2, x3, x4⟩, ⟨x5, x6, x7, x8⟩⟩) (y := ⟨y0, ⟨y1, y2, y3, y4⟩, ⟨y5, y6, y7, y8⟩⟩) (Blk.new W _ _).drew (by simp))))).mono ?_
                    rintro e w9 ⟨rfl, hb⟩
                    refine hK _ _ ?_
                    clear hK K
                    have j1 := ((I1.out.alloc (.cells #[.bool x0, .int .i64 x1, .bool x2, .int .u64 x3, .int .i64 x4, .int .i64 x5, .bool x6, .int .u64 x7, .int .i64 x8, .bool y0, .int .i64 y1, .bool y2, .int .u64 y3, .int .i64 y4, .int .i64 y5, .bool y6, .int .u64 y7, .int .i64 y8] 26)).drew).call hb
                    obtain ⟨g0, gf0⟩ := j1.c1
                    have J1 := Lib.hid j1
                    have J2 := Lib.hid (((I2.out.alloc (.cells #[.bool x0, .int .i64 x1, .bool x2, .int .u64 x3, .int .i64 x4, .int .i64 x5, .bool x6, .int .u64 x7, .int .i64 x8, .bool y0, .int .i64 y1, .bool y2, .int .u64 y3, .int .i64 y4, .int .i64 y5, .bool y6, .int .u64 y7, .int .i64 y8] 26)).drew).call hb)
                    have hLw := j1.lt
                    have Hb := Lib.hid hb
                    clear hb j1
                    refine wpAnyIn_ready (rs := [5]) (by kernel_rfl) (by simp) ?_
                    refine AllReadyIn.cons rfl (fun K hK => ?_) ?_
                    · skip
                      go_simp
                      refine hK _ _ ?_
                      clear hK K
                      refine wpAnyIn_ready (rs := [6]) (by kernel_rfl) (by simp) ?_
                      refine AllReadyIn.cons rfl (fun K hK => ?_) ?_
                      · skip
                        refine stepIn_appI (by rfl) (.tmp 29) (.tmp 34) (by rfl) w2.heap.size v L (by rfl) (J2.out.alloc (.cells #[.bool r0, .int .i64 r1, .bool r2, .int .u64 r3, .int .i64 r4, .int .i64 r5, .bool r6, .int .u64 r7, .int .i64 r8] 26)) (w9.heap.size + 1) ⟨w9.heap.size, 0, none⟩ 1 1 [⟨r0, ⟨r1, r2, r3, r4⟩, ⟨r5, r6, r7, r8⟩⟩] (by rfl) (SlI.lit1 (Blk.new w9 _ _) (by omega)) (by omega) (by simp; omega) ?_
                        intro v3 w3 O3 hg3 hat3
                        obtain ⟨A3, n3, c3, rfl⟩ := O3.form
                        refine hK _ _ ?_
                        clear hK K
                        have k1 := (J1.out.alloc (.cells #[.bool r0, .int .i64 r1, .bool r2, .int .u64 r3, .int .i64 r4, .int .i64 r5, .bool r6, .int .u64 r7, .int .i64 r8] 26)).grown hg3 (fun e => by have := I3.out _ e.symm; omega)
                        obtain ⟨h0, hf0⟩ := k1.c1
                        have K1 := Lib.hid k1
                        have O3' := Lib.hid O3
                        have Hg3 := Lib.hid hg3
                        have Hat := Lib.hid hat3
                        clear O3 hg3 hat3 k1
                        refine wpAnyIn_ready (rs := [7]) (by kernel_rfl) (by simp) ?_
                        refine AllReadyIn.cons rfl (fun K hK => ?_) ?_
                        · skip
                          go_simp
                          refine hK _ _ ?_
                          clear hK K
                          refine wpAnyIn_done (by kernel_rfl) ?_ _
                          have FIN := app_round (B' := W0.heap.size) hN2 hB I1.out I2.out I3.out i4 i5 Hb.out O3'.out Hg3.out Hat.out
                          rw [← Hsn.out] at FIN
                          gi_wp2
                          exact FIN
                        exact AllReadyIn.nil
                      exact AllReadyIn.nil
                    exact AllReadyIn.nil
                  exact AllReadyIn.nil
                exact AllReadyIn.nil
              refine AllReadyIn.cons rfl (fun K hK => ?_) ?_
              · skip
                go_simp
                refine hK _ _ ?_
                clear hK K
                refine wpAnyIn_ready (rs := [0, 4]) (by kernel_rfl) (by simp) ?_
                refine AllReadyIn.cons rfl (fun K hK => ?_) ?_
                · skip
                  go_simp
                  refine hK _ _ ?_
                  clear hK K
                  refine wpAnyIn_ready (rs := [4]) (by kernel_rfl) (by simp) ?_
                  refine AllReadyIn.cons rfl (fun K hK => ?_) ?_
                  · skip
                    go_simp
                    refine ⟨trivial, ?_⟩
                    refine (CallsIn.inRound l (callsIn_wide.2 (HM.out _ _ (SlI.lit2 (x := ⟨x0, ⟨x1, x2, x3, x4⟩, ⟨x5, x6, x7, x8⟩⟩) (y := ⟨y0, ⟨y1, y2, y3, y4⟩, ⟨y5, y6, y7, y8⟩⟩) (Blk.new W _ _).drew (by simp))))).mono ?_
                    rintro e w9 ⟨rfl, hb⟩
                    refine hK _ _ ?_
                    clear hK K
                    have j1 := ((I1.out.alloc (.cells #[.bool x0, .int .i64 x1, .bool x2, .int .u64 x3, .int .i64 x4, .int .i64 x5, .bool x6, .int .u64 x7, .int .i64 x8, .bool y0, .int .i64 y1, .bool y2, .int .u64 y3, .int .i64 y4, .int .i64 y5, .bool y6, .int .u64 y7, .int .i64 y8] 26)).drew).call hb
                    obtain ⟨g0, gf0⟩ := j1.c1
                    have J1 := Lib.hid j1
                    have J2 := Lib.hid (((I2.out.alloc (.cells #[.bool x0, .int .i64 x1, .bool x2, .int .u64 x3, .int .i64 x4, .int .i64 x5, .bool x6, .int .u64 x7, .int .i64 x8, .bool y0, .int .i64 y1, .bool y2, .int .u64 y3, .int .i64 y4, .int .i64 y5, .bool y6, .int .u64 y7, .int .i64 y8] 26)).drew).call hb)
                    have hLw := j1.lt
                    have Hb := Lib.hid hb
                    clear hb j1
                    refine wpAnyIn_ready (rs := [5]) (by kernel_rfl) (by simp) ?_
                    refine AllReadyIn.cons rfl (fun K hK => ?_) ?_
                    · skip
                      go_simp
                      refine hK _ _ ?_
                      clear hK K
                      refine wpAnyIn_ready (rs := [6]) (by kernel_rfl) (by simp) ?_
                      refine AllReadyIn.cons rfl (fun K hK => ?_) ?_
                      · skip
                        refine stepIn_appI (by rfl) (.tmp 29) (.tmp 34) (by rfl) w2.heap.size v L (by rfl) (J2.out.alloc (.cells #[.bool r0, .int .i64 r1, .bool r2, .int .u64 r3, .int .i64 r4, .int .i64 r5, .bool r6, .int .u64 r7, .int .i64 r8] 26)) (w9.heap.size + 1) ⟨w9.heap.size, 0, none⟩ 1 1 [⟨r0, ⟨r1, r2, r3, r4⟩, ⟨r5, r6, r7, r8⟩⟩] (by rfl) (SlI.lit1 (Blk.new w9 _ _) (by omega)) (by omega) (by simp; omega) ?_
                        intro v3 w3 O3 hg3 hat3
                        obtain ⟨A3, n3, c3, rfl⟩ := O3.form
                        refine hK _ _ ?_
                        clear hK K
                        have k1 := (J1.out.alloc (.cells #[.bool r0, .int .i64 r1, .bool r2, .int .u64 r3, .int .i64 r4, .int .i64 r5, .bool r6, .int .u64 r7, .int .i64 r8] 26)).grown hg3 (fun e => by have := I3.out _ e.symm; omega)
                        obtain ⟨h0, hf0⟩ := k1.c1
                        have K1 := Lib.hid k1
                        have O3' := Lib.hid O3
                        have Hg3 := Lib.hid hg3
                        have Hat := Lib.hid hat3
                        clear O3 hg3 hat3 k1
                        refine wpAnyIn_ready (rs := [7]) (by kernel_rfl) (by simp) ?_
                        refine AllReadyIn.cons rfl (fun K hK => ?_) ?_
                        · skip
                          go_simp
                          refine hK _ _ ?_
                          clear hK K
                          refine wpAnyIn_done (by kernel_rfl) ?_ _
                          have FIN := app_round (B' := W0.heap.size) hN2 hB I1.out I2.out I3.out i4 i5 Hb.out O3'.out Hg3.out Hat.out
                          rw [← Hsn.out] at FIN
                          gi_wp2
                          exact FIN
                        exact AllReadyIn.nil
                      exact AllReadyIn.nil
                    exact AllReadyIn.nil
                  exact AllReadyIn.nil
                refine AllReadyIn.cons rfl (fun K hK => ?_) ?_
                · skip
                  go_simp
                  refine ⟨trivial, ?_⟩
                  refine (CallsIn.inRound l (callsIn_wide.2 (HM.out _ _ (SlI.lit2 (x := ⟨x0, ⟨x1, x2, x3, x4⟩, ⟨x5, x6, x7, x8⟩⟩) (y := ⟨y0, ⟨y1, y2, y3, y4⟩, ⟨y5, y6, y7, y8⟩⟩) (Blk.new W _ _).drew (by simp))))).mono ?_
                  rintro e w9 ⟨rfl, hb⟩
                  refine hK _ _ ?_
                  clear hK K
                  have j1 := ((I1.out.alloc (.cells #[.bool x0, .int .i64 x1, .bool x2, .int .u64 x3, .int .i64 x4, .int .i64 x5, .bool x6, .int .u64 x7, .int .i64 x8, .bool y0, .int .i64 y1, .bool y2, .int .u64 y3, .int .i64 y4, .int .i64 y5, .bool y6, .int .u64 y7, .int .i64 y8] 26)).drew).call hb
                  obtain ⟨g0, gf0⟩ := j1.c1
                  have J1 := Lib.hid j1
                  have J2 := Lib.hid (((I2.out.alloc (.cells #[.bool x0, .int .i64 x1, .bool x2, .int .u64 x3, .int .i64 x4, .int .i64 x5, .bool x6, .int .u64 x7, .int .i64 x8, .bool y0, .int .i64 y1, .bool y2, .int .u64 y3, .int .i64 y4, .int .i64 y5, .bool y6, .int .u64 y7, .int .i64 y8] 26)).drew).call hb)
                  have hLw := j1.lt
                  have Hb := Lib.hid hb
                  clear hb j1
                  refine wpAnyIn_ready (rs := [0, 5]) (by kernel_rfl) (by simp) ?_
                  refine AllReadyIn.cons rfl (fun K hK => ?_) ?_
                  · skip
                    go_simp
                    refine hK _ _ ?_
                    clear hK K
                    refine wpAnyIn_ready (rs := [5]) (by kernel_rfl) (by simp) ?_
                    refine AllReadyIn.cons rfl (fun K hK => ?_) ?_
                    · skip
                      go_simp
                      refine hK _ _ ?_
                      clear hK K
                      refine wpAnyIn_ready (rs := [6]) (by kernel_rfl) (by simp) ?_
                      refine AllReadyIn.cons rfl (fun K hK => ?_) ?_
                      · skip
                        refine stepIn_appI (by rfl) (.tmp 29) (.tmp 34) (by rfl) w2.heap.size v L (by rfl) (J2.out.alloc (.cells #[.bool r0, .int .i64 r1, .bool r2, .int .u64 r3, .int .i64 r4, .int .i64 r5, .bool r6, .int .u64 r7, .int .i64 r8] 26)) (w9.heap.size + 1) ⟨w9.heap.size, 0, none⟩ 1 1 [⟨r0, ⟨r1, r2, r3, r4⟩, ⟨r5, r6, r7, r8⟩⟩] (by rfl) (SlI.lit1 (Blk.new w9 _ _) (by omega)) (by omega) (by simp; omega) ?_
                        intro v3 w3 O3 hg3 hat3
                        obtain ⟨A3, n3, c3, rfl⟩ := O3.form
                        refine hK _ _ ?_
                        clear hK K
                        have k1 := (J1.out.alloc (.cells #[.bool r0, .int .i64 r1, .bool r2, .int .u64 r3, .int .i64 r4, .int .i64 r5, .bool r6, .int .u64 r7, .int .i64 r8] 26)).grown hg3 (fun e => by have := I3.out _ e.symm; omega)
                        obtain ⟨h0, hf0⟩ := k1.c1
                        have K1 := Lib.hid k1
                        have O3' := Lib.hid O3
                        have Hg3 := Lib.hid hg3
                        have Hat := Lib.hid hat3
                        clear O3 hg3 hat3 k1
                        refine wpAnyIn_ready (rs := [7]) (by kernel_rfl) (by simp) ?_
                        refine AllReadyIn.cons rfl (fun K hK => ?_) ?_
                        · skip
                          go_simp
                          refine hK _ _ ?_
                          clear hK K
                          refine wpAnyIn_done (by kernel_rfl) ?_ _
                          have FIN := app_round (B' := W0.heap.size) hN2 hB I1.out I2.out I3.out i4 i5 Hb.out O3'.out Hg3.out Hat.out
                          rw [← Hsn.out] at FIN
                          gi_wp2
                          exact FIN
                        exact AllReadyIn.nil
                      exact AllReadyIn.nil
                    exact AllReadyIn.nil
                  refine AllReadyIn.cons rfl (fun K hK => ?_) ?_
                  · skip
                    go_simp
                    refine hK _ _ ?_
                    clear hK K
                    refine wpAnyIn_ready (rs := [0]) (by kernel_rfl) (by simp) ?_
                    refine AllReadyIn.cons rfl (fun K hK => ?_) ?_
                    · skip
                      go_simp
                      refine hK _ _ ?_
                      clear hK K
                      refine wpAnyIn_ready (rs := [6]) (by kernel_rfl) (by simp) ?_
                      refine AllReadyIn.cons rfl (fun K hK => ?_) ?_
                      · skip
                        refine stepIn_appI (by rfl) (.tmp 29) (.tmp 34) (by rfl) w2.heap.size v L (by rfl) (J2.out.alloc (.cells #[.bool r0, .int .i64 r1, .bool r2, .int .u64 r3, .int .i64 r4, .int .i64 r5, .bool r6, .int .u64 r7, .int .i64 r8] 26)) (w9.heap.size + 1) ⟨w9.heap.size, 0, none⟩ 1 1 [⟨r0, ⟨r1, r2, r3, r4⟩, ⟨r5, r6, r7, r8⟩⟩] (by rfl) (SlI.lit1 (Blk.new w9 _ _) (by omega)) (by omega) (by simp; omega) ?_
                        intro v3 w3 O3 hg3 hat3
                        obtain ⟨A3, n3, c3, rfl⟩ := O3.form
                        refine hK _ _ ?_
                        clear hK K
                        have k1 := (J1.out.alloc (.cells #[.bool r0, .int .i64 r1, .bool r2, .int .u64 r3, .int .i64 r4, .int .i64 r5, .bool r6, .int .u64 r7, .int .i64 r8] 26)).grown hg3 (fun e => by have := I3.out _ e.symm; omega)
                        obtain ⟨h0, hf0⟩ := k1.c1
                        have K1 := Lib.hid k1
                        have O3' := Lib.hid O3
                        have Hg3 := Lib.hid hg3
                        have Hat := Lib.hid hat3
                        clear O3 hg3 hat3 k1
                        refine wpAnyIn_ready (rs := [7]) (by kernel_rfl) (by simp) ?_
                        refine AllReadyIn.cons rfl (fun K hK => ?_) ?_
                        · skip
                          go_simp
                          refine hK _ _ ?_
                          clear hK K
                          refine wpAnyIn_done (by kernel_rfl) ?_ _
                          have FIN := app_round (B' := W0.heap.size) hN2 hB I1.out I2.out I3.out i4 i5 Hb.out O3'.out Hg3.out Hat.out
                          rw [← Hsn.out] at FIN
                          gi_wp2
                          exact FIN
                        exact AllReadyIn.nil
                      exact AllReadyIn.nil
                    exact AllReadyIn.nil
                  exact AllReadyIn.nil
                exact AllReadyIn.nil
              exact AllReadyIn.nil
            exact AllReadyIn.nil
          exact AllReadyIn.nil
        case done =>
          rintro D zs W hD rfl ⟨⟨v, i1, i2, i3, i4, i5⟩, hB⟩ hK
          have hDl : D < W.heap.size := (Array.getElem?_eq_some_iff.1 hK).1
          rw [zip_map] at i2
          obtain ⟨A1, n1, c1, rfl⟩ := i2.form
          obtain ⟨q0, f0⟩ := i1.c1
          have I2 := Lib.hid i2
          have I3 := Lib.hid i3
          have HK := Lib.hid hK
          clear i1 i2 i3 i4 i5 hK
          gi_wp2
          refine ⟨by simp, .inl ⟨_, _, rfl, run_takeDeferred HK.out, ?_⟩⟩
          refine ⟨.slice A1 n1 c1, by simp [results, Try.results36, go_sem], _, rfl, (I2.out.base hb12.size).same fun k hk => World.putObj_heap_other (by intro e; obtain ⟨cur, hc⟩ := I2.out.cells hk; have h' := HK.out; first | (rw [← e] at h'; rw [show W.heap[k]? = _ from hc] at h'; cases h') | (rw [e] at h'; rw [show W.heap[k]? = _ from hc] at h'; cases h')), (bl_trans hb12 hB).trans (belowK_b (w := w) (Nat.le_refl _) _ D _ _ (by have := hb12.size; omega) HK.out rfl rfl)⟩
        case stop =>
          rintro D c' pre W hD ⟨k, hk, rfl⟩ ⟨hF, hB⟩ hK
          exact hF.elim
      · rw [hp2] at HE2
        rw [if_pos rfl]
        have HF := Lib.hid (fun W h => fairB_calls A n c xs W h hn)
        gi_wp2_with (refine ⟨trivial, ?_⟩; first
          | (gi_at_call 40; first
            | (refine (callsIn_wide.2 (HE.out w hs)).mono ?_; rintro e w1 ⟨rfl, hb1⟩)
            | (refine (callsIn_wide.2 (HE2.out w1 (ht.on hb1))).mono ?_; rintro e w2 ⟨rfl, hb2⟩; have hb12 := bl_trans hb1 hb2))
          | (gi_at_call 38; refine (callsIn_wide.2 (HF.out _ (hs.on hb12))).mono ?_; rintro e w3 ⟨v, rfl, O3, hb3⟩))
        exact ⟨v, by simp [results, Try.results36, go_sem], _, rfl, O3.base hb12.size, bl_trans hb12 hb3⟩
    · rw [hp] at HE
      rw [if_pos rfl]
      have HF := Lib.hid (fun W h => fairB_calls B n d ys W h hn)
      gi_wp2_with (refine ⟨trivial, ?_⟩; first
        | (gi_at_call 40; refine (callsIn_wide.2 (HE.out w hs)).mono ?_; rintro e w1 ⟨rfl, hb1⟩)
        | (gi_at_call 38; refine (callsIn_wide.2 (HF.out _ (ht.on hb1))).mono ?_; rintro e w3 ⟨v, rfl, O3, hb3⟩))
      exact ⟨v, by simp [results, Try.results36, go_sem], _, rfl, O3.base hb1.size, bl_trans hb1 hb3⟩
  · rw [if_neg hnm]
    have hq : ((n : Int) != m) = true := by simp; omega
    gi_wp2
    exact ⟨.slice none 0 0, by simp [results, Try.results36, go_sem], _, rfl, OwnI.nil _ _, Below.refl _ _⟩
end Go.Proofs.Ytagojbgmgkkdpaa.Wk


/- Walk: peloruslaw14.awake. -/
namespace Go.Proofs.Ytagojbgmgkkdpaa.Wk
open Go.RowKit Go.Proofs.Pl Go.Proofs.YtagojbgmgkkdpaaW.PrintLast
set_option linter.unusedSimpArgs false
set_option linter.unusedVariables false

def i02 : Iv := ⟨false, ⟨0, false, 0, 0⟩, ⟨1, false, 9223372036854775808, -62⟩⟩
def i01 : Iv := ⟨false, ⟨0, false, 0, 0⟩, ⟨1, false, 9223372036854775808, -63⟩⟩
def i13 : Iv := ⟨false, ⟨1, false, 9223372036854775808, -63⟩, ⟨1, false, 13835058055282163712, -62⟩⟩
def i23 : Iv := ⟨false, ⟨1, false, 9223372036854775808, -62⟩, ⟨1, false, 13835058055282163712, -62⟩⟩
def i03 : Iv := ⟨false, ⟨0, false, 0, 0⟩, ⟨1, false, 13835058055282163712, -62⟩⟩
theorem aw14_a : (meetB [i02, i01] [i13, i23]).length = 2 := by decide +kernel
theorem aw14_b : emptyB (meetB [i02, i01] [i13, i23]) = true := by decide +kernel
theorem aw14_c : emptyB [i02, i01] = false := by decide +kernel
theorem wid0 (h : Num) (hw : Wf h) (hf : fairI ⟨false, zero, h⟩ = ⟨false, zero, h⟩) (hm : fairN h = h) : widthI ⟨false, zero, h⟩ = h := by
  unfold widthI
  rw [hf]
  show subN h zero true = h
  rw [subN_zero _ hw, hm]
theorem wid01 : widthI i01 = ⟨1, false, 9223372036854775808, -63⟩ := wid0 ⟨1, false, 9223372036854775808, -63⟩ (by unfold Wf; simp) (by decide +kernel) (by decide +kernel)
theorem wid03 : widthI i03 = ⟨1, false, 13835058055282163712, -62⟩ := wid0 ⟨1, false, 13835058055282163712, -62⟩ (by unfold Wf; simp) (by decide +kernel) (by decide +kernel)
theorem aw14_d : widestB [i01, i03] = 1 := by
  unfold widestB
  rw [if_neg (by decide +kernel)]
  have b1 : bestN [i01, i03] 1 = 0 := by
    show (if 0 < cmpN (widthI (ivAt [i01, i03] 0)) (widthI (ivAt [i01, i03] 0)) then 0 else 0) = 0
    split <;> rfl
  show ((if 0 < cmpN (widthI (ivAt [i01, i03] 1)) (widthI (ivAt [i01, i03] (bestN [i01, i03] 1))) then 1 else bestN [i01, i03] 1 : Nat) : Int) = 1
  rw [b1]
  show ((if 0 < cmpN (widthI i03) (widthI i01) then 1 else 0 : Nat) : Int) = 1
  rw [wid01, wid03]
  decide +kernel
theorem aw14_w : ∀ x ∈ [i01, i03], WfIv x := by
  intro x hx
  simp only [List.mem_cons, List.not_mem_nil, or_false] at hx
  rcases hx with rfl | rfl <;> (unfold WfIv Wf; decide)
set_option maxRecDepth 100000 in
set_option maxHeartbeats 8000000 in
theorem awake14_calls (w : World) : Calls Try.prog 32 #[] w fun e w' => e = .returned (.bool true) ∧ Below w.heap.size w w' := by
  have HM := Lib.hid (fun A c B d W h1 h2 => meetB_calls A 2 c [i02, i01] B 2 d [i13, i23] W h1 h2 (by omega))
  have hl := aw14_a
  have HE1 := Lib.hid (fun A c W h => emptyB_calls A 2 c (meetB [i02, i01] [i13, i23]) W h (by omega))
  have HE2 := Lib.hid (fun A c W h => emptyB_calls A 2 c [i02, i01] W h (by omega))
  have HW := Lib.hid (fun A c W h => widestB_calls A 2 c [i01, i03] W h aw14_w (by omega))
  rw [aw14_b] at HE1
  rw [aw14_c] at HE2
  rw [aw14_d] at HW
  generalize meetB [i02, i01] [i13, i23] = M at HM HE1 hl
  have Hl := Lib.hid hl
  clear hl
  have HB0 := Below.refl w.heap.size w
  go_enter Try.func32, Try.ntmps32
  go_wp2_with (first
    | (go_at_call 56; first
      | ((with_reducible refine (ofI_0_2 w).mono ?_); rintro e' w1 ⟨rfl, hb⟩; have HB1 := bl_trans HB0 hb; clear hb)
      | ((with_reducible refine (ofI_0_1 w1).mono ?_); rintro e' w2 ⟨rfl, hb⟩; have HB2 := bl_trans HB1 hb; clear hb
         have HB2' := bl_alloc HB2 (.cells #[.bool false, .int .i64 0, .bool false, .int .u64 0, .int .i64 0, .int .i64 1, .bool false, .int .u64 9223372036854775808, .int .i64 (-62), .bool false, .int .i64 0, .bool false, .int .u64 0, .int .i64 0, .int .i64 1, .bool false, .int .u64 9223372036854775808, .int .i64 (-63)] 26)
         have SA := Lib.hid (SlI.lit2 (x := i02) (y := i01) (Blk.new w2 26 _) (show w2.heap.size < (w2.alloc (.cells #[.bool false, .int .i64 0, .bool false, .int .u64 0, .int .i64 0, .int .i64 1, .bool false, .int .u64 9223372036854775808, .int .i64 (-62), .bool false, .int .i64 0, .bool false, .int .u64 0, .int .i64 0, .int .i64 1, .bool false, .int .u64 9223372036854775808, .int .i64 (-63)] 26)).heap.size by simp)))
      | ((with_reducible refine (ofI_1_3 _).mono ?_); rintro e' w3 ⟨rfl, hb⟩; have HB3 := bl_trans HB2' hb; have SA3 := Lib.hid (SA.out.on hb); clear hb)
      | ((with_reducible refine (ofI_2_3 w3).mono ?_); rintro e' w4 ⟨rfl, hb⟩; have HB4 := bl_alloc (bl_trans HB3 hb) (.cells #[.bool false, .int .i64 1, .bool false, .int .u64 9223372036854775808, .int .i64 (-63), .int .i64 1, .bool false, .int .u64 13835058055282163712, .int .i64 (-62), .bool false, .int .i64 1, .bool false, .int .u64 9223372036854775808, .int .i64 (-62), .int .i64 1, .bool false, .int .u64 13835058055282163712, .int .i64 (-62)] 26)
         have SA4 := Lib.hid (SA3.out.on (bl_alloc hb (.cells #[.bool false, .int .i64 1, .bool false, .int .u64 9223372036854775808, .int .i64 (-63), .int .i64 1, .bool false, .int .u64 13835058055282163712, .int .i64 (-62), .bool false, .int .i64 1, .bool false, .int .u64 9223372036854775808, .int .i64 (-62), .int .i64 1, .bool false, .int .u64 13835058055282163712, .int .i64 (-62)] 26))); clear hb
         have SB4 := Lib.hid (SlI.lit2 (x := i13) (y := i23) (Blk.new w4 26 _) (show w4.heap.size < (w4.alloc (.cells #[.bool false, .int .i64 1, .bool false, .int .u64 9223372036854775808, .int .i64 (-63), .int .i64 1, .bool false, .int .u64 13835058055282163712, .int .i64 (-62), .bool false, .int .i64 1, .bool false, .int .u64 9223372036854775808, .int .i64 (-62), .int .i64 1, .bool false, .int .u64 13835058055282163712, .int .i64 (-62)] 26)).heap.size by simp)))
      | ((with_reducible refine (ofI_0_1 w7).mono ?_); rintro e' w8 ⟨rfl, hb⟩; have HB8 := bl_trans HB7 hb; clear hb)
      | ((with_reducible refine (ofI_0_3 w8).mono ?_); rintro e' w9 ⟨rfl, hb⟩; have HB9 := bl_alloc (bl_trans HB8 hb) (.cells #[.bool false, .int .i64 0, .bool false, .int .u64 0, .int .i64 0, .int .i64 1, .bool false, .int .u64 9223372036854775808, .int .i64 (-63), .bool false, .int .i64 0, .bool false, .int .u64 0, .int .i64 0, .int .i64 1, .bool false, .int .u64 13835058055282163712, .int .i64 (-62)] 26); clear hb))
    | (go_at_call 34; (refine (HM.out _ _ _ _ _ SA4.out SB4.out).mono ?_); rintro e' w5 ⟨v5, rfl, O5, hb⟩; obtain ⟨A5, c5, rfl, S5⟩ := O5.sln Hl.out; have HS5 := Lib.hid S5; have HB5 := bl_trans HB4 hb; have SA5 := Lib.hid (SA4.out.on hb); clear hb O5 S5)
    | (go_at_call 40; first
      | ((with_reducible refine (HE1.out A5 c5 w5 HS5.out).mono ?_); rintro e' w6 ⟨rfl, hb⟩; have HB6 := bl_trans HB5 hb; have SA6 := Lib.hid (SA5.out.on hb); clear hb)
      | ((with_reducible refine (HE2.out _ _ w6 SA6.out).mono ?_); rintro e' w7 ⟨rfl, hb⟩; have HB7 := bl_trans HB6 hb; clear hb))
    | (go_at_call 46; (refine (HW.out _ _ _ (SlI.lit2 (x := i01) (y := i03) (Blk.new w9 26 _) (show w9.heap.size < (w9.alloc (.cells #[.bool false, .int .i64 0, .bool false, .int .u64 0, .int .i64 0, .int .i64 1, .bool false, .int .u64 9223372036854775808, .int .i64 (-63), .bool false, .int .i64 0, .bool false, .int .u64 0, .int .i64 0, .int .i64 1, .bool false, .int .u64 13835058055282163712, .int .i64 (-62)] 26)).heap.size by simp))).mono ?_); rintro e' w10 ⟨rfl, hb⟩; have HB10 := bl_trans HB9 hb; clear hb))
  go_ret
  exact ⟨rfl, HB10⟩
end Go.Proofs.Ytagojbgmgkkdpaa.Wk

