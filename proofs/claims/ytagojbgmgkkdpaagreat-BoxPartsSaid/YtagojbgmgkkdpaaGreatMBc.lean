import Derived.Test.YtagojbgmgkkdpaaGreatMBa
import Derived.RangeFuncNested
import Derived.RangeFuncBound
import Derived.RangeFuncCalls
import Derived.RangeFuncLeaves
import Derived.OwnWalkIn
import Derived.TacticsInMore
import Derived.LoopNIn
import Derived.LoopIn
import Derived.Stop.RegionWithIn
import Derived.Test.YtagojbgmgkkdpaaGreatIvC
import Derived.Shelf.Abstract
import Derived.Test.YtagojbgmgkkdpaaGreatMBd
import Derived.Test.YtagojbgmgkkdpaaGreatAw08
/- Walks: box.pairs and its iterator. -/
namespace Go.Proofs.YtagojbgmgkkdpaaGreat.Wk
open Go.RowKit Go.Proofs.Pl Go.Proofs.YtagojbgmgkkdpaaGreatW.PrintLast
set_option linter.unusedSimpArgs false
set_option linter.unusedVariables false

set_option maxHeartbeats 1000000 in
theorem pairs_calls (A : Option Addr) (n c : Nat) (B : Option Addr) (m d : Nat) (w : World) :
    Calls Tryz.prog 37 #[.slice A n c, .slice B m d] w fun e w' => e = .returned (.func (.func 67) #[] #[.pointer (some ⟨w.heap.size, 0, none⟩), .pointer (some ⟨w.heap.size + 1, 0, none⟩)]) ∧ w' = (w.alloc (.cells #[.slice A n c] 22)).alloc (.cells #[.slice B m d] 22) := by
  go_enter Tryz.func37, Tryz.ntmps37
  go_wp2
  go_ret
  exact ⟨rfl, rfl⟩

theorem run_min2 {P : Program} {w : World} (ts : Array TypeId) (t : TypeId) (x y : Int) : (Builtin.min_ ts t #[.int .i64 x, .int .i64 y]).run P w = .ok (.int .i64 (min x y)) w := by
  simp [Builtin.min_, Builtin.min2]
  omega
attribute [local go_sem] Oper.semAt_some run_min2

abbrev encP (x : Iv × Iv) : Array Value := #[.agg (ivCells x.1).toArray, .agg (ivCells x.2).toArray]
/-- what a round must keep: all below n₀, and the boxes of the two -/
def KpP (n₀ Ba Bb : Nat) (W W' : World) : Prop := Below n₀ W W' ∧ W'.heap[Ba]? = W.heap[Ba]? ∧ W'.heap[Bb]? = W.heap[Bb]?
theorem KpP.trans {n₀ Ba Bb : Nat} {X Y Z : World} (h : KpP n₀ Ba Bb X Y) (k : KpP n₀ Ba Bb Y Z) : KpP n₀ Ba Bb X Z := ⟨h.1.trans k.1, k.2.1.trans h.2.1, k.2.2.trans h.2.2⟩
theorem zip_snoc {xs ys : List Iv} {k : Nat} {x y : Iv} (hx : xs[k]? = some x) (hy : ys[k]? = some y) : (List.zip xs ys).take k ++ [(x, y)] = (List.zip xs ys).take (k + 1) := by
  rw [List.take_add_one, (List.getElem?_zip_eq_some (z := (x, y))).2 ⟨hx, hy⟩]
  rfl
set_option maxRecDepth 100000 in
set_option maxHeartbeats 4000000 in
theorem pairs1_in (m : Nat) (hm : 1 ≤ m) (l Ba Bb n₀ n c d : Nat) (A B : Option Addr) (xs ys : List Iv) (hn : n ≤ 1000) (J Jx : List (Iv × Iv) → World → Prop)
    (hJd : ∀ pre W W', J pre W → W.grownBy W' none → J pre W')
    (hY : ∀ pre x W, J pre W → pre.length < n → YieldAt Fence.wide (m - 1) Tryz.prog l (encP x) W fun e W' =>
      (e = .returned (.bool true) ∧ J (pre ++ [x]) W' ∧ KpP n₀ Ba Bb W W') ∨ (e = .returned (.bool false) ∧ Jx (pre ++ [x]) W'))
    (W : World) (hBa : Blk W Ba 22 #[.slice A n c]) (hBb : Blk W Bb 22 #[.slice B n d]) (hn₀ : n₀ ≤ W.heap.size) (hs : SlI W n₀ A n xs) (ht : SlI W n₀ B n ys) (h0 : J [] W) :
    CallsIn Fence.wide m Tryz.prog 67 #[.func (.yield l) #[] #[], .pointer (some ⟨Ba, 0, none⟩), .pointer (some ⟨Bb, 0, none⟩)] W fun e W' => (∃ v, e = .returned v) ∧
      ((∃ zs, zs = List.zip xs ys ∧ J zs W') ∨ (∃ pre, (∃ k, k ≤ n ∧ pre = (List.zip xs ys).take k) ∧ Jx pre W')) := by
  refine callsIn_of_wp Tryz.func67 rfl trivial ?_ rfl
  simp only [Tryz.ntmps67, List.size_toArray, List.length_cons, List.length_nil, Nat.reduceAdd, Nat.reduceSub, Array.replicate_succ, Array.replicate_zero, List.push_toArray, List.append_toArray, List.nil_append, List.cons_append]
  have hBc := hBa.cell 0
  have hBd := hBb.cell 0
  simp only [List.getElem?_toArray, List.getElem?_cons_zero] at hBc hBd
  have hmin : min (n : Int) n = n := by omega
  gi_wp2
  gi_loopw [4, 10] (fun _ i wr => ∃ k : Nat, k ≤ n ∧ i = .int .i64 k ∧ J ((List.zip xs ys).take k) wr ∧ Below n₀ W wr ∧ Blk wr Ba 22 #[.slice A n c] ∧ Blk wr Bb 22 #[.slice B n d])
    (fun _ i _ => n - (intOf i).toNat)
  case atStart => exact ⟨0, Nat.zero_le _, rfl, h0, Below.refl _ _, hBa, hBb⟩
  case round =>
    obtain ⟨k, hk, rfl, hJs, hnx, hBx, hBy⟩ := hrel
    by_cases hlt : k < n
    · obtain ⟨b, off, x, rfl, hbB, hx, e0, e1, e2, e3, e4, e5, e6, e7, e8⟩ := (hs.below hnx).at_ hlt
      obtain ⟨b', off', y, rfl, hbB', hy, g0, g1, g2, g3, g4, g5, g6, g7, g8⟩ := (ht.below hnx).at_ hlt
      have hz := zip_snoc hx hy
      have Hz := Lib.hid hz
      have hn1 : n₀ ≤ wr.heap.size := Nat.le_trans hn₀ hnx.size
      have hlen : ((List.zip xs ys).take k).length < n := by
        rw [List.length_take, List.length_zip, hs.1, ht.1]; omega
      have r0 := hBx.cell 0
      have r1 := hBy.cell 0
      simp only [List.getElem?_toArray, List.getElem?_cons_zero] at r0 r1
      have hJ3 := hJd _ _ _ hJs (show wr.grownBy wr.drew none from ⟨rfl, rfl, rfl, Nat.le_refl _, fun _ _ _ => rfl⟩)
      obtain ⟨fn, tmps, assign, body, hyy, hR⟩ := hY ((List.zip xs ys).take k) (x, y) wr.drew hJ3 hlen
      dsimp only [encP, ivCells] at hyy
      have hR' : RoundIn Fence.wide (m - 1) Tryz.prog l fn tmps assign body wr.drew fun e W' => ∃ r : Bool, e = .returned (.bool r) ∧ Hid ((r = true ∧ J ((List.zip xs ys).take (k + 1)) W' ∧ Below n₀ W wr ∧ KpP n₀ Ba Bb wr.drew W') ∨ (r = false ∧ Jx ((List.zip xs ys).take (k + 1)) W')) := by
        refine hR.mono ?_
        rw [Hz.out]
        rintro e W' (⟨rfl, h1, h2⟩ | ⟨rfl, h1⟩)
        · exact ⟨true, rfl, .inl ⟨rfl, h1, hnx, h2⟩⟩
        · exact ⟨false, rfl, .inr ⟨rfl, h1⟩⟩
      have HBX := Lib.hid hBx
      have HBY := Lib.hid hBy
      clear hR hY hJd hJ3 hJs Hz hz hx hy hnx hs ht hBx hBy hBa hBb hBc hBd h0 hlen
      obtain ⟨x0, ⟨x1, x2, x3, x4⟩, ⟨x5, x6, x7, x8⟩⟩ := x
      obtain ⟨y0, ⟨y1, y2, y3, y4⟩, ⟨y5, y6, y7, y8⟩⟩ := y
      dsimp only at e0 e1 e2 e3 e4 e5 e6 e7 e8 g0 g1 g2 g3 g4 g5 g6 g7 g8 hyy
      gi_wp2
      gi_region_with (refine hR'.mono ?_; rintro e W3 ⟨r, rfl, hr⟩; clear hR')
      all_goals cases r
      all_goals gi_wp2
      all_goals rcases hr.out with ⟨h, hJ4, hB3, hB4⟩ | ⟨h, hx3⟩
      all_goals first
        | (exfalso; cases h; done)
        | (refine bodyPost_ret (results_none rfl _ _ _) rfl ?_; exact ⟨⟨_, rfl⟩, .inr ⟨_, ⟨k + 1, by omega, rfl⟩, hx3⟩⟩)
        | (go_roundw
           case rel => exact ⟨k + 1, by omega, by go_num, hJ4, hB3.drew.trans hB4.1, hB4.2.1.trans HBX.out, hB4.2.2.trans HBY.out⟩
           case measure => simp [intOf]; omega)
    · obtain rfl : k = n := by omega
      have hzz : (List.zip xs ys).take k = List.zip xs ys := List.take_of_length_le (by rw [List.length_zip, hs.1, ht.1]; omega)
      rw [hzz] at hJs
      have HJ := Lib.hid hJs
      clear hJs hzz hs ht
      gi_wp2
      go_end0
      exact ⟨⟨_, rfl⟩, .inl ⟨_, rfl, HJ.out⟩⟩
/-- what box.pairs hands back may be ranged over -/
theorem pairs_stops (m : Nat) (hm : 1 ≤ m) (Ba Bb n₀ n c d : Nat) (A B : Option Addr) (xs ys : List Iv) (hn : n ≤ 1000) (w : World) (hBa : Blk w Ba 22 #[.slice A n c]) (hBb : Blk w Bb 22 #[.slice B n d]) (hn₀ : n₀ ≤ w.heap.size) (hs : SlI w n₀ A n xs) (ht : SlI w n₀ B n ys) :
    SeqStopsK Fence.wide m Tryz.prog 67 #[.pointer (some ⟨Ba, 0, none⟩), .pointer (some ⟨Bb, 0, none⟩)] encP (KpP n₀ Ba Bb) (fun zs => zs = List.zip xs ys) (fun pre => ∃ k, k ≤ n ∧ pre = (List.zip xs ys).take k) n w := fun l J Jx W hW hJ _ hY h0 => by
  exact pairs1_in m hm l Ba Bb n₀ n c d A B xs ys hn J Jx (fun pre X Y h hg => hJ pre X Y none h hg (fun r e => by cases e)) hY W (hBa.call hW) (hBb.call hW) (Nat.le_trans hn₀ hW.size) (hs.below (hW.mono hn₀)) (ht.below (hW.mono hn₀)) h0
end Go.Proofs.YtagojbgmgkkdpaaGreat.Wk

/- Walk: box.Within. -/
namespace Go.Proofs.YtagojbgmgkkdpaaGreat.Wk
open Go.RowKit Go.Shelf Go.Proofs.Pl Go.Proofs.YtagojbgmgkkdpaaGreatW.PrintLast
set_option linter.unusedSimpArgs false
set_option linter.unusedVariables false
attribute [local go_sem] Oper.semAt_some

theorem keepsFrom_below {W W' : World} (hb : Below W.heap.size W W') (B : Nat) : KeepsFrom B W W' := ⟨hb.size, fun k o _ hk _ => (hb.block k (Array.getElem?_eq_some_iff.1 hk).1).trans hk⟩
theorem blk_own {β : Type} (g : Nat) (t : TypeId) (f : β → Array Value) : Own (fun s W => Blk W g t (f s)) := fun s X Y row hs hg hrow =>
 Blk.grown hs hg (fun e' => by obtain ⟨o, ho, hc⟩ := hrow g e'.symm; rw [show X.heap[g]? = _ from hs] at ho; cases ho; cases hc)
theorem Blk.c1 {w : World} {g : Nat} {t : TypeId} {x0 : Value} (h : Blk w g t #[x0]) : w.cell? ⟨g, 0, none⟩ = some x0 ∧ w.frozen? ⟨g, 0, none⟩ = false := ⟨h.cell 0, h.frozen 0⟩
theorem withinL_zip : ∀ (a b : List Iv), a.length = b.length → (withinL a b = true ↔ ∀ x ∈ List.zip a b, withinI x.1 x.2 = true)
 | [], [], _ => by simp [withinL]
 | x :: a, y :: b, h => by
  simp only [withinL, List.zip_cons_cons, List.mem_cons, Bool.and_eq_true, withinL_zip a b (by simpa using h)]
  constructor
  ·rintro ⟨h1, h2⟩ z (rfl | hz)
   ·exact h1
   ·exact h2 z hz
  ·intro h
   exact ⟨h (x, y) (.inl rfl), fun z hz => h z (.inr hz)⟩
end Go.Proofs.YtagojbgmgkkdpaaGreat.Wk

/- Walks: box.Meet, box.Hull. -/
namespace Go.Proofs.YtagojbgmgkkdpaaGreat.Wk
open Go.RowKit Go.Shelf Go.Proofs.Pl Go.Proofs.YtagojbgmgkkdpaaGreatW.PrintLast
set_option linter.unusedSimpArgs false
set_option linter.unusedVariables false
attribute [local go_sem] Oper.semAt_some

theorem stepIn_appI {F : Fence} {m : Nat} {ops : Array Oper} {o : Oper} {a : Act} {K : Act → World → Prop} {Q : Exit → Act → World → Prop} {w : World} {E : Prop} (hgd : o.guard = none) (s x : Operand) (ho : o.op = .call { callee := .builtin .append, args := #[s, x], argTypes := #[22, 22] }) (base : Nat) (v : Value) (xs : List Iv) (hs : a.eval s = v) (hown : OwnI w base v xs) (B : Nat) (A : Addr) (k c : Nat) (ys : List Iv) (hx : a.eval x = .slice (some A) k c) (hys : SlI w B (some A) k ys) (hsm : xs.length + k ≤ 1000000) (hbase : base ≤ w.heap.size)
  (h : ∀ v' w', OwnI w' base v' (xs ++ ys) → w.grownBy w' v.ownBlock → (v'.ownBlock = v.ownBlock ∨ v'.ownBlock = some w.heap.size) → K (a.put o.dst v') w') : if Region.wanted o (yielded ops a.tmps) = true then Oper.wpIn F m Tryz.prog o a w K Q else E := by
 have hw : Region.wanted o (yielded ops a.tmps) = true := by simp [Region.wanted, hgd]
 rw [if_pos hw]
 obtain ⟨v', w', hr, h1, h2, h3⟩ := run_appI base v xs hown o.type B A k c ys hys hsm hbase
 unfold Oper.wpIn
 refine ⟨?_, ?_⟩
 ·simp [Oper.about, ho, resolve, Target.leads, Sem.run_pure]
 ·rw [Oper.semAt_plain F _ _ (by rw [ho]; intro c hc'; cases hc')]
  simp [execOp, ho, resolve, invoke, builtin, hs, hx, hr, Result.andThen]
  exact h v' w' h1 h2 h3
theorem ownI_own (base : Nat) (v : Value) (xs : List Iv) {X Y : World} {row : Option Nat} (hs : OwnI X base v xs) (hg : X.grownBy Y row) (hrow : ∀ r, row = some r → ∃ o : Obj, X.heap[r]? = some o ∧ o.isCells = false) : OwnI Y base v xs := by
 refine ⟨hs.1, ?_⟩
 rcases hs.2 with h | ⟨g, cap, cur, rfl, h1, h2, h3⟩
 ·exact .inl h
 ·refine .inr ⟨g, cap, cur, rfl, h1, (hg.block g ?_ ?_).trans h2, h3⟩
  ·rcases Nat.lt_or_ge g X.heap.size with h | h
   ·exact h
   ·rw [Array.getElem?_eq_none h] at h2; cases h2
  ·intro e
   obtain ⟨o, ho, hc⟩ := hrow g e.symm
   rw [ho] at h2
   cases h2
   cases hc
theorem OwnI.cells {w : World} {base g : Nat} {v : Value} {xs : List Iv} (h : OwnI w base v xs) (hg : v.ownBlock = some g) : ∃ cur, Blk w g 39 cur := by
 rcases h.2 with ⟨rfl, hn⟩ | ⟨g', cap, cur, rfl, hb, hgg, rest⟩
 ·cases hg
 ·cases hg
  exact ⟨cur, hgg⟩
theorem keepsFrom_grown {X Y : World} {row : Option Nat} (hg : X.grownBy Y row) (hr : ∀ g, row = some g → ∃ t cs, Blk X g t cs) (B : Nat) : KeepsFrom B X Y :=
 ⟨hg.size, fun k o _ hk ho => by
  refine (hg.block k ?_ ?_).trans hk
  ·rcases Nat.lt_or_ge k X.heap.size with h | h
   ·exact h
   ·rw [Array.getElem?_eq_none h] at hk; cases hk
  ·intro e
   obtain ⟨t, cs, hb⟩ := hr k e.symm
   rw [show X.heap[k]? = _ from hb] at hk
   cases hk
   cases ho⟩
/-- a round that appends one interval to the list in the box -/
theorem app_round {w W w2 w3 : World} {N B' : Nat} (hN2 : w.heap.size < N) {v v3 : Value} {L : List Iv} {r : Iv} {cA cB : Array Value} {o o2 : Obj} (hB : Below w.heap.size w W)
  (i1 : Blk W w.heap.size 22 #[v]) (i2 : OwnI W w.heap.size v L) (i3 : ∀ k, v.ownBlock = some k → N + 1 < k) (i4 : Blk W N 22 cA) (i5 : Blk W (N + 1) 22 cB)
  (hb : Below (W.alloc o).drew.heap.size (W.alloc o).drew w2) (O3 : OwnI w3 w.heap.size v3 (L ++ [r])) (hg3 : (w2.alloc o2).grownBy w3 v.ownBlock) (hat : v3.ownBlock = v.ownBlock ∨ v3.ownBlock = some (w2.alloc o2).heap.size) :
  KeepsFrom B' W (w3.setCell ⟨w.heap.size, 0, none⟩ v3) ∧ KpP w.heap.size N (N + 1) W (w3.setCell ⟨w.heap.size, 0, none⟩ v3) ∧
   ((∃ v', Blk (w3.setCell ⟨w.heap.size, 0, none⟩ v3) w.heap.size 22 #[v'] ∧ OwnI (w3.setCell ⟨w.heap.size, 0, none⟩ v3) w.heap.size v' (L ++ [r]) ∧ (∀ k, v'.ownBlock = some k → N + 1 < k) ∧ Blk (w3.setCell ⟨w.heap.size, 0, none⟩ v3) N 22 cA ∧ Blk (w3.setCell ⟨w.heap.size, 0, none⟩ v3) (N + 1) 22 cB) ∧ Below w.heap.size w (w3.setCell ⟨w.heap.size, 0, none⟩ v3)) := by
 have l5 := i5.lt
 have hX : Below W.heap.size W (W.alloc o).drew := bl_drew (bl_alloc (Below.refl _ _) o)
 have h2 : Below W.heap.size W (w2.alloc o2) := bl_alloc (bl_trans hX hb) o2
 have hz := h2.size
 have kk : ∀ k, k < W.heap.size → some k ≠ v.ownBlock → w3.heap[k]? = W.heap[k]? := fun k hk hne => (hg3.block k (by omega) hne).trans (h2.block k hk)
 have nL : some w.heap.size ≠ v.ownBlock := fun e => by have := i3 _ e.symm; omega
 have nA : some N ≠ v.ownBlock := fun e => by have := i3 _ e.symm; omega
 have nB : some (N + 1) ≠ v.ownBlock := fun e => by have := i3 _ e.symm; omega
 have j1 : Blk w3 w.heap.size 22 #[v] := (kk _ (by omega) nL).trans i1
 have j4 : Blk w3 N 22 cA := (kk _ (by omega) nA).trans i4
 have j5 : Blk w3 (N + 1) 22 cB := (kk _ l5 nB).trans i5
 have k4 := j4.far (p := ⟨w.heap.size, 0, none⟩) (by show N ≠ w.heap.size; omega) v3
 have k5 := j5.far (p := ⟨w.heap.size, 0, none⟩) (by show N + 1 ≠ w.heap.size; omega) v3
 have b3 : Below w.heap.size W w3 := (h2.mono hB.size).grown hg3 (Nat.le_trans hB.size hz) (fun k hk => (i2.lt k hk).1)
 have b4 : Below w.heap.size W (w3.setCell ⟨w.heap.size, 0, none⟩ v3) := b3.setCell (p := ⟨w.heap.size, 0, none⟩) (Nat.le_refl _) v3
 have n3 : ∀ k, v3.ownBlock = some k → N + 1 < k := fun k hk => by
  rcases hat with h | h
  ·exact i3 k (h ▸ hk)
  ·rw [h] at hk
   cases hk
   omega
 refine ⟨?_, ⟨b4, Eq.trans (show _ = some _ from k4) (show _ = some _ from i4).symm, Eq.trans (show _ = some _ from k5) (show _ = some _ from i5).symm⟩, ⟨v3, j1.set_ 0 v3, ?_, n3, k4, k5⟩, hB.trans b4⟩
 ·refine ((keepsFrom_below h2 _).trans (keepsFrom_grown hg3 (fun g hg => ?_) _)).trans ((KeepsOthers.setCell _ _ _).from _)
  obtain ⟨cur, hc⟩ := i2.cells hg
  exact ⟨_, cur, hc.call h2⟩
 ·refine O3.same fun k hk => Below.heap_setCell w3 ⟨w.heap.size, 0, none⟩ v3 k ?_
  have := n3 k hk
  show k ≠ w.heap.size
  omega
theorem OwnI.base {w : World} {b b' : Nat} {v : Value} {xs : List Iv} (h : OwnI w b v xs) (hb : b' ≤ b) : OwnI w b' v xs := ⟨h.1, h.2.imp id (fun ⟨g, cap, cur, h1, h2, h3⟩ => ⟨g, cap, cur, h1, Nat.le_trans hb h2, h3⟩)⟩
theorem OwnI.form {w : World} {base : Nat} {v : Value} {xs : List Iv} (h : OwnI w base v xs) : ∃ A n c, v = .slice A n c := by
 obtain ⟨A, c, e, _⟩ := h.sl
 exact ⟨A, _, c, e⟩
theorem zip_map (f : Iv → Iv → Iv) : ∀ (a b : List Iv), (List.zip a b).map (fun x => f x.1 x.2) = List.zipWith f a b
 | [], _ => by simp
 | _ :: _, [] => by simp
 | x :: a, y :: b => by simp [zip_map f a b]
set_option maxRecDepth 100000 in
set_option maxHeartbeats 8000000 in
theorem meetB_calls (A : Option Addr) (n c : Nat) (xs : List Iv) (B : Option Addr) (m d : Nat) (ys : List Iv) (w : World) (hs : SlI w w.heap.size A n xs) (ht : SlI w w.heap.size B m ys) (hn : n ≤ 1000) :
  Calls Tryz.prog 16 #[.slice A n c, .slice B m d] w fun e w' => ∃ v, e = .returned v ∧ OwnI w' w.heap.size v (meetB xs ys) ∧ Below w.heap.size w w' := by
 refine (callsIn_wide (n := 4)).1 ?_
 refine callsIn_of_wp_marks Tryz.func16 rfl trivial ?_ rfl
 simp only [Tryz.ntmps16, List.size_toArray, List.length_cons, List.length_nil, Nat.reduceAdd, Nat.reduceSub, Array.replicate_succ, Array.replicate_zero, List.push_toArray, List.append_toArray, List.nil_append, List.cons_append]
 unfold meetB
 rw [hs.1, ht.1]
 by_cases hnm : n = m
 ·subst hnm
  rw [if_pos rfl]
  have hq : ((n : Int) != n) = false := by simp
  gi_wp2_with (refine ⟨trivial, ?_⟩; gi_at_call 37; refine (callsIn_wide.2 (pairs_calls A n c B n d _)).mono ?_; rintro e w' ⟨rfl, rfl⟩)
  have BL := ((Blk.new w 22 #[.slice none 0 0]).alloc (.cells #[.slice A n c] 22)).alloc (.cells #[.slice B n d] 22)
  have BX := (Blk.new1 w (.cells #[.slice none 0 0] 22) 22 #[.slice A n c]).alloc (.cells #[.slice B n d] 22)
  have BY := Blk.new2 w (.cells #[.slice none 0 0] 22) (.cells #[.slice A n c] 22) 22 #[.slice B n d]
  have HB2 := bl_alloc (bl_alloc (bl_alloc (Below.refl w.heap.size w) (.cells #[.slice none 0 0] 22)) (.cells #[.slice A n c] 22)) (.cells #[.slice B n d] 22)
  obtain ⟨W0, hW0⟩ : ∃ W0, ((w.alloc (.cells #[.slice none 0 0] 22)).alloc (.cells #[.slice A n c] 22)).alloc (.cells #[.slice B n d] 22) = W0 := ⟨_, rfl⟩
  have hsz : W0.heap.size = w.heap.size + 3 := by rw [← hW0]; simp
  rw [hW0] at BL BX BY HB2 ⊢
  have hs2 := hs.below HB2
  have ht2 := ht.below HB2
  have hlen : xs.length = ys.length := by rw [hs.1, ht.1]
  have hxl := hs.1
  clear hW0 hs ht
  obtain ⟨N, hN⟩ : ∃ N, N = w.heap.size + 1 := ⟨_, rfl⟩
  have BY' : Blk W0 (N + 1) 22 #[.slice B n d] := by rw [hN]; exact BY
  have BX' : Blk W0 N 22 #[.slice A n c] := by rw [hN]; exact BX
  rw [← hN]
  have hN1 : N + 1 < W0.heap.size := by omega
  have hN2 : w.heap.size < N := by omega
  clear BX BY hN hsz
  refine wpIn_rangeFunc_ownH rfl (by omega) (gf := 67) (lb := #[.pointer (some ⟨N, 0, none⟩), .pointer (some ⟨N + 1, 0, none⟩)]) rfl trivial (enters_of Tryz.func67 (by kernel_rfl) rfl)
   (pairs_stops 3 (by omega) N (N + 1) w.heap.size n c d A B xs ys hn W0 BX' BY' (by omega) hs2 ht2) KpP.trans
   (fun W l o o' hl h1 h2 h3 => ⟨belowK_b (w := W0) (by omega) W l o o' hl h1 h2 h3, World.putObj_heap_other (by omega), World.putObj_heap_other (by omega)⟩) (Below.refl _ _) (fun _ => rfl)
   (fun pre W => (∃ v, Blk W w.heap.size 22 #[v] ∧ OwnI W w.heap.size v (pre.map fun x => meet2 x.1 x.2) ∧ (∀ k, v.ownBlock = some k → N + 1 < k) ∧ Blk W N 22 #[.slice A n c] ∧ Blk W (N + 1) 22 #[.slice B n d]) ∧ Below w.heap.size w W)
   (fun c pre W => False ∧ Below w.heap.size w W)
   ?hI ?hIx ?h0
   (fun x a' W => ∃ P Q, N + 1 < P ∧ N + 1 < Q ∧ P ≠ Q ∧ (Blk W P 39 (ivCells x.1).toArray ∧ Blk W Q 39 (ivCells x.2).toArray) ∧ a' = { tmps := #[.slice A n c, .slice B n d, undef, undef, .slice none 0 0, .pointer (some ⟨w.heap.size, 0, none⟩), .pointer (some ⟨P, 0, none⟩), .pointer (some ⟨Q, 0, none⟩), .slice A n c, .int .i64 n, .slice B n d, .int .i64 n, .bool false, .slice A n c, .slice B n d, .func (.func 67) #[] #[.pointer (some ⟨N, 0, none⟩), .pointer (some ⟨N + 1, 0, none⟩)], .agg (ivCells x.1).toArray, .agg (ivCells x.2).toArray, undef, undef, undef, undef, undef, undef, undef, undef, undef], defers := [] })
   ?hAx ?assign ?body ?done ?stop
  case hI =>
   refine OwnFrom.and ?_ (ownFrom_below (Nat.le_refl _) (by omega))
   rintro s X Y row ⟨v, h1, h2, h3, h4, h5⟩ hg hr
   exact ⟨v, blk_own _ _ (fun _ : Unit => #[v]) () X Y row h1 hg (fun r e => (hr r e).2), ownI_own _ _ _ h2 hg (fun r e => (hr r e).2), h3, blk_own _ _ (fun _ : Unit => #[.slice A n c]) () X Y row h4 hg (fun r e => (hr r e).2), blk_own _ _ (fun _ : Unit => #[.slice B n d]) () X Y row h5 hg (fun r e => (hr r e).2)⟩
  case hIx =>
   intro c
   exact OwnFrom.and (ownFrom_pure _ _) (ownFrom_below (Nat.le_refl _) (by omega))
  case h0 => exact ⟨⟨_, BL, OwnI.nil _ _, (fun k hk => by cases hk), BX', BY'⟩, HB2⟩
  case hAx =>
   intro x a'
   rintro s X Y row ⟨P, Q, h1, h2, h3, h4, h5⟩ hg hr
   exact ⟨P, Q, h1, h2, h3, ⟨blk_own _ _ (fun _ : Unit => (ivCells x.1).toArray) s X Y row h4.1 hg (fun r e => (hr r e).2), blk_own _ _ (fun _ : Unit => (ivCells x.2).toArray) s X Y row h4.2 hg (fun r e => (hr r e).2)⟩, h5⟩
  case assign =>
   rintro l pre ⟨x, y⟩ W K ⟨⟨v, i1, i2, i3, i4, i5⟩, hB⟩ hK
   dsimp only at hK
   have hb2 : Below W.heap.size W ((W.alloc (.cells (ivCells x).toArray 39)).alloc (.cells (ivCells y).toArray 39)) := bl_alloc (bl_alloc (Below.refl _ _) _) _
   have hNW := i5.lt
   have hK2 := hK _ _ (keepsFrom_below hb2 _) ⟨hb2.mono hB.size, hb2.block _ (by omega), hb2.block _ hNW⟩ ⟨⟨v, i1.call hb2, i2.call hb2, i3, i4.call hb2, i5.call hb2⟩, bl_trans hB hb2⟩
    ⟨W.heap.size, W.heap.size + 1, by omega, by omega, by omega, ⟨(Blk.new W _ _).alloc _, Blk.new1 W _ _ _⟩, rfl⟩
   clear hK i1 i2 i3 i4 i5 hB hb2
   dsimp only [encP, ivCells] at hK2 ⊢
   gi_wp2
   exact hK2
  case body =>
   rintro l pre ⟨x, y⟩ a' W hl ⟨r, hr⟩ ⟨⟨v, i1, i2, i3, i4, i5⟩, hB⟩ ⟨P, Q, hP, hQ, hPQ, ⟨bP, bQ⟩, rfl⟩ hlenp
   obtain ⟨x0, ⟨x1, x2, x3, x4⟩, ⟨x5, x6, x7, x8⟩⟩ := x
   obtain ⟨y0, ⟨y1, y2, y3, y4⟩, ⟨y5, y6, y7, y8⟩⟩ := y
   have HM := Lib.hid (fun A W (h : SlI W W.heap.size A 2 [⟨x0, ⟨x1, x2, x3, x4⟩, ⟨x5, x6, x7, x8⟩⟩, ⟨y0, ⟨y1, y2, y3, y4⟩, ⟨y5, y6, y7, y8⟩⟩]) => meetI_calls A 2 2 _ W h (by omega))
   have Hsn := Lib.hid (show (pre ++ [((⟨x0, ⟨x1, x2, x3, x4⟩, ⟨x5, x6, x7, x8⟩⟩ : Iv), (⟨y0, ⟨y1, y2, y3, y4⟩, ⟨y5, y6, y7, y8⟩⟩ : Iv))]).map (fun z : Iv × Iv => meet2 z.1 z.2) = pre.map (fun z : Iv × Iv => meet2 z.1 z.2) ++ [meetI [⟨x0, ⟨x1, x2, x3, x4⟩, ⟨x5, x6, x7, x8⟩⟩, ⟨y0, ⟨y1, y2, y3, y4⟩, ⟨y5, y6, y7, y8⟩⟩]] by simp [meet2])
   generalize meetI [⟨x0, ⟨x1, x2, x3, x4⟩, ⟨x5, x6, x7, x8⟩⟩, ⟨y0, ⟨y1, y2, y3, y4⟩, ⟨y5, y6, y7, y8⟩⟩] = r at HM Hsn
   have hpl : (pre.map fun z : Iv × Iv => meet2 z.1 z.2).length < n := by rw [List.length_map]; exact hlenp
   generalize hL : (pre.map fun z : Iv × Iv => meet2 z.1 z.2) = L at i2 hpl Hsn
   clear hL
   obtain ⟨r0, ⟨r1, r2, r3, r4⟩, ⟨r5, r6, r7, r8⟩⟩ := r
   dsimp only [ivCells] at bP bQ HM ⊢
   have z1 := i1.drew
   have zP := bP.drew
   have zQ := bQ.drew
   obtain ⟨p0, pf0⟩ := z1.c1
   obtain ⟨p0', pf0'⟩ := i1.c1
   obtain ⟨⟨q0, q1, q2, q3, q4, q5, q6, q7, q8⟩, _⟩ := zP.c9
   obtain ⟨⟨t0, t1, t2, t3, t4, t5, t6, t7, t8⟩, _⟩ := zQ.c9
   have hPW := bP.lt
   have hQW := bQ.lt
   have hLW := i1.lt
   have I2 := Lib.hid i2
   have I3 := Lib.hid i3
   clear i2 i3
   gi_wp2_with fail
   have I1 := Lib.hid i1
   clear i1
   refine wpIn_region_any (by kernel_rfl) ?_
   change wpAnyIn _ _ _ _ _ _ _ _ _ (World.drew _)
   refine wpAnyIn_ready (rs := [0, 1, 2]) (by kernel_rfl) (by simp) ?_
   refine AllReadyIn.cons rfl (fun K hK => ?_) ?_
   ·skip
    go_simp
    refine hK _ _ ?_
    clear hK K
    refine wpAnyIn_ready (rs := [1, 2]) (by kernel_rfl) (by simp) ?_
    refine AllReadyIn.cons rfl (fun K hK => ?_) ?_
    ·skip
     go_simp
     refine hK _ _ ?_
     clear hK K
     refine wpAnyIn_ready (rs := [2]) (by kernel_rfl) (by simp) ?_
     refine AllReadyIn.cons rfl (fun K hK => ?_) ?_
     ·skip
      go_simp
      refine hK _ _ ?_
      clear hK K
      refine wpAnyIn_ready (rs := [3]) (by kernel_rfl) (by simp) ?_
      refine AllReadyIn.cons rfl (fun K hK => ?_) ?_
      ·skip
       go_simp
       refine hK _ _ ?_
       clear hK K
       refine wpAnyIn_ready (rs := [4]) (by kernel_rfl) (by simp) ?_
       refine AllReadyIn.cons rfl (fun K hK => ?_) ?_
       ·skip
        go_simp
        refine ⟨trivial, ?_⟩
        refine (CallsIn.inRound l (callsIn_wide.2 (HM.out _ _ (SlI.lit2 (x := ⟨x0, ⟨x1, x2, x3, x4⟩, ⟨x5, x6, x7, x8⟩⟩) (y := ⟨y0, ⟨y1, y2, y3, y4⟩, ⟨y5, y6, y7, y8⟩⟩) (Blk.new W _ _).drew (by simp))))).mono ?_
        rintro e w2 ⟨rfl, hb⟩
        refine hK _ _ ?_
        clear hK K
        have j1 := ((I1.out.alloc (.cells #[.bool x0, .int .i64 x1, .bool x2, .int .u64 x3, .int .i64 x4, .int .i64 x5, .bool x6, .int .u64 x7, .int .i64 x8, .bool y0, .int .i64 y1, .bool y2, .int .u64 y3, .int .i64 y4, .int .i64 y5, .bool y6, .int .u64 y7, .int .i64 y8] 39)).drew).call hb
        obtain ⟨g0, gf0⟩ := j1.c1
        have J1 := Lib.hid j1
        have J2 := Lib.hid (((I2.out.alloc (.cells #[.bool x0, .int .i64 x1, .bool x2, .int .u64 x3, .int .i64 x4, .int .i64 x5, .bool x6, .int .u64 x7, .int .i64 x8, .bool y0, .int .i64 y1, .bool y2, .int .u64 y3, .int .i64 y4, .int .i64 y5, .bool y6, .int .u64 y7, .int .i64 y8] 39)).drew).call hb)
        have hLw := j1.lt
        have Hb := Lib.hid hb
        clear hb j1
        refine wpAnyIn_ready (rs := [5]) (by kernel_rfl) (by simp) ?_
        refine AllReadyIn.cons rfl (fun K hK => ?_) ?_
        ·skip
         go_simp
         refine hK _ _ ?_
         clear hK K
         refine wpAnyIn_ready (rs := [6]) (by kernel_rfl) (by simp) ?_
         refine AllReadyIn.cons rfl (fun K hK => ?_) ?_
         ·skip
          refine stepIn_appI (by rfl) (.tmp 18) (.tmp 23) (by rfl) w.heap.size v L (by rfl) (J2.out.alloc (.cells #[.bool r0, .int .i64 r1, .bool r2, .int .u64 r3, .int .i64 r4, .int .i64 r5, .bool r6, .int .u64 r7, .int .i64 r8] 39)) (w2.heap.size + 1) ⟨w2.heap.size, 0, none⟩ 1 1 [⟨r0, ⟨r1, r2, r3, r4⟩, ⟨r5, r6, r7, r8⟩⟩] (by rfl) (SlI.lit1 (Blk.new w2 _ _) (by omega)) (by omega) (by simp; omega) ?_
          intro v3 w3 O3 hg3 hat3
          obtain ⟨A3, n3, c3, rfl⟩ := O3.form
          refine hK _ _ ?_
          clear hK K
          have k1 := (J1.out.alloc (.cells #[.bool r0, .int .i64 r1, .bool r2, .int .u64 r3, .int .i64 r4, .int .i64 r5, .bool r6, .int .u64 r7, .int .i64 r8] 39)).grown hg3 (fun e => by have := I3.out _ e.symm; omega)
          obtain ⟨h0, hf0⟩ := k1.c1
          have K1 := Lib.hid k1
          have O3' := Lib.hid O3
          have Hg3 := Lib.hid hg3
          have Hat := Lib.hid hat3
          clear O3 hg3 hat3 k1
          refine wpAnyIn_ready (rs := [7]) (by kernel_rfl) (by simp) ?_
          refine AllReadyIn.cons rfl (fun K hK => ?_) ?_
          ·skip
           go_simp
           refine hK _ _ ?_
           clear hK K
           refine wpAnyIn_done (by kernel_rfl) ?_ _
           have FIN := app_round (B' := W0.heap.size) hN2 hB I1.out I2.out I3.out i4 i5 Hb.out O3'.out Hg3.out Hat.out
           rw [← Hsn.out] at FIN
           gi_wp2
           exact FIN
          exact AllReadyIn.nil
         exact AllReadyIn.nil
        exact AllReadyIn.nil
       exact AllReadyIn.nil
      exact AllReadyIn.nil
     exact AllReadyIn.nil
    refine AllReadyIn.cons rfl (fun K hK => ?_) ?_
    ·skip
     go_simp
     refine hK _ _ ?_
     clear hK K
     refine wpAnyIn_ready (rs := [1]) (by kernel_rfl) (by simp) ?_
     refine AllReadyIn.cons rfl (fun K hK => ?_) ?_
     ·skip
      go_simp
      refine hK _ _ ?_
      clear hK K
      refine wpAnyIn_ready (rs := [3]) (by kernel_rfl) (by simp) ?_
      refine AllReadyIn.cons rfl (fun K hK => ?_) ?_
      ·skip
       go_simp
       refine hK _ _ ?_
       clear hK K
       refine wpAnyIn_ready (rs := [4]) (by kernel_rfl) (by simp) ?_
       refine AllReadyIn.cons rfl (fun K hK => ?_) ?_
       ·skip
        go_simp
        refine ⟨trivial, ?_⟩
        refine (CallsIn.inRound l (callsIn_wide.2 (HM.out _ _ (SlI.lit2 (x := ⟨x0, ⟨x1, x2, x3, x4⟩, ⟨x5, x6, x7, x8⟩⟩) (y := ⟨y0, ⟨y1, y2, y3, y4⟩, ⟨y5, y6, y7, y8⟩⟩) (Blk.new W _ _).drew (by simp))))).mono ?_
        rintro e w2 ⟨rfl, hb⟩
        refine hK _ _ ?_
        clear hK K
        have j1 := ((I1.out.alloc (.cells #[.bool x0, .int .i64 x1, .bool x2, .int .u64 x3, .int .i64 x4, .int .i64 x5, .bool x6, .int .u64 x7, .int .i64 x8, .bool y0, .int .i64 y1, .bool y2, .int .u64 y3, .int .i64 y4, .int .i64 y5, .bool y6, .int .u64 y7, .int .i64 y8] 39)).drew).call hb
        obtain ⟨g0, gf0⟩ := j1.c1
        have J1 := Lib.hid j1
        have J2 := Lib.hid (((I2.out.alloc (.cells #[.bool x0, .int .i64 x1, .bool x2, .int .u64 x3, .int .i64 x4, .int .i64 x5, .bool x6, .int .u64 x7, .int .i64 x8, .bool y0, .int .i64 y1, .bool y2, .int .u64 y3, .int .i64 y4, .int .i64 y5, .bool y6, .int .u64 y7, .int .i64 y8] 39)).drew).call hb)
        have hLw := j1.lt
        have Hb := Lib.hid hb
        clear hb j1
        refine wpAnyIn_ready (rs := [5]) (by kernel_rfl) (by simp) ?_
        refine AllReadyIn.cons rfl (fun K hK => ?_) ?_
        ·skip
         go_simp
         refine hK _ _ ?_
         clear hK K
         refine wpAnyIn_ready (rs := [6]) (by kernel_rfl) (by simp) ?_
         refine AllReadyIn.cons rfl (fun K hK => ?_) ?_
         ·skip
          refine stepIn_appI (by rfl) (.tmp 18) (.tmp 23) (by rfl) w.heap.size v L (by rfl) (J2.out.alloc (.cells #[.bool r0, .int .i64 r1, .bool r2, .int .u64 r3, .int .i64 r4, .int .i64 r5, .bool r6, .int .u64 r7, .int .i64 r8] 39)) (w2.heap.size + 1) ⟨w2.heap.size, 0, none⟩ 1 1 [⟨r0, ⟨r1, r2, r3, r4⟩, ⟨r5, r6, r7, r8⟩⟩] (by rfl) (SlI.lit1 (Blk.new w2 _ _) (by omega)) (by omega) (by simp; omega) ?_
          intro v3 w3 O3 hg3 hat3
          obtain ⟨A3, n3, c3, rfl⟩ := O3.form
          refine hK _ _ ?_
          clear hK K
          have k1 := (J1.out.alloc (.cells #[.bool r0, .int .i64 r1, .bool r2, .int .u64 r3, .int .i64 r4, .int .i64 r5, .bool r6, .int .u64 r7, .int .i64 r8] 39)).grown hg3 (fun e => by have := I3.out _ e.symm; omega)
          obtain ⟨h0, hf0⟩ := k1.c1
          have K1 := Lib.hid k1
          have O3' := Lib.hid O3
          have Hg3 := Lib.hid hg3
          have Hat := Lib.hid hat3
          clear O3 hg3 hat3 k1
          refine wpAnyIn_ready (rs := [7]) (by kernel_rfl) (by simp) ?_
          refine AllReadyIn.cons rfl (fun K hK => ?_) ?_
          ·skip
           go_simp
           refine hK _ _ ?_
           clear hK K
           refine wpAnyIn_done (by kernel_rfl) ?_ _
           have FIN := app_round (B' := W0.heap.size) hN2 hB I1.out I2.out I3.out i4 i5 Hb.out O3'.out Hg3.out Hat.out
           rw [← Hsn.out] at FIN
           gi_wp2
           exact FIN
          exact AllReadyIn.nil
         exact AllReadyIn.nil
        exact AllReadyIn.nil
       exact AllReadyIn.nil
      exact AllReadyIn.nil
     exact AllReadyIn.nil
    exact AllReadyIn.nil
   refine AllReadyIn.cons rfl (fun K hK => ?_) ?_
   ·skip
    go_simp
    refine hK _ _ ?_
    clear hK K
    refine wpAnyIn_ready (rs := [0, 2]) (by kernel_rfl) (by simp) ?_
    refine AllReadyIn.cons rfl (fun K hK => ?_) ?_
    ·skip
     go_simp
     refine hK _ _ ?_
     clear hK K
     refine wpAnyIn_ready (rs := [2]) (by kernel_rfl) (by simp) ?_
     refine AllReadyIn.cons rfl (fun K hK => ?_) ?_
     ·skip
      go_simp
      refine hK _ _ ?_
      clear hK K
      refine wpAnyIn_ready (rs := [3]) (by kernel_rfl) (by simp) ?_
      refine AllReadyIn.cons rfl (fun K hK => ?_) ?_
      ·skip
       go_simp
       refine hK _ _ ?_
       clear hK K
       refine wpAnyIn_ready (rs := [4]) (by kernel_rfl) (by simp) ?_
       refine AllReadyIn.cons rfl (fun K hK => ?_) ?_
       ·skip
        go_simp
        refine ⟨trivial, ?_⟩
        refine (CallsIn.inRound l (callsIn_wide.2 (HM.out _ _ (SlI.lit2 (x := ⟨x0, ⟨x1, x2, x3, x4⟩, ⟨x5, x6, x7, x8⟩⟩) (y := ⟨y0, ⟨y1, y2, y3, y4⟩, ⟨y5, y6, y7, y8⟩⟩) (Blk.new W _ _).drew (by simp))))).mono ?_
        rintro e w2 ⟨rfl, hb⟩
        refine hK _ _ ?_
        clear hK K
        have j1 := ((I1.out.alloc (.cells #[.bool x0, .int .i64 x1, .bool x2, .int .u64 x3, .int .i64 x4, .int .i64 x5, .bool x6, .int .u64 x7, .int .i64 x8, .bool y0, .int .i64 y1, .bool y2, .int .u64 y3, .int .i64 y4, .int .i64 y5, .bool y6, .int .u64 y7, .int .i64 y8] 39)).drew).call hb
        obtain ⟨g0, gf0⟩ := j1.c1
        have J1 := Lib.hid j1
        have J2 := Lib.hid (((I2.out.alloc (.cells #[.bool x0, .int .i64 x1, .bool x2, .int .u64 x3, .int .i64 x4, .int .i64 x5, .bool x6, .int .u64 x7, .int .i64 x8, .bool y0, .int .i64 y1, .bool y2, .int .u64 y3, .int .i64 y4, .int .i64 y5, .bool y6, .int .u64 y7, .int .i64 y8] 39)).drew).call hb)
        have hLw := j1.lt
        have Hb := Lib.hid hb
        clear hb j1
        refine wpAnyIn_ready (rs := [5]) (by kernel_rfl) (by simp) ?_
        refine AllReadyIn.cons rfl (fun K hK => ?_) ?_
        ·skip
         go_simp
         refine hK _ _ ?_
         clear hK K
         refine wpAnyIn_ready (rs := [6]) (by kernel_rfl) (by simp) ?_
         refine AllReadyIn.cons rfl (fun K hK => ?_) ?_
         ·skip
          refine stepIn_appI (by rfl) (.tmp 18) (.tmp 23) (by rfl) w.heap.size v L (by rfl) (J2.out.alloc (.cells #[.bool r0, .int .i64 r1, .bool r2, .int .u64 r3, .int .i64 r4, .int .i64 r5, .bool r6, .int .u64 r7, .int .i64 r8] 39)) (w2.heap.size + 1) ⟨w2.heap.size, 0, none⟩ 1 1 [⟨r0, ⟨r1, r2, r3, r4⟩, ⟨r5, r6, r7, r8⟩⟩] (by rfl) (SlI.lit1 (Blk.new w2 _ _) (by omega)) (by omega) (by simp; omega) ?_
          intro v3 w3 O3 hg3 hat3
          obtain ⟨A3, n3, c3, rfl⟩ := O3.form
          refine hK _ _ ?_
          clear hK K
          have k1 := (J1.out.alloc (.cells #[.bool r0, .int .i64 r1, .bool r2, .int .u64 r3, .int .i64 r4, .int .i64 r5, .bool r6, .int .u64 r7, .int .i64 r8] 39)).grown hg3 (fun e => by have := I3.out _ e.symm; omega)
          obtain ⟨h0, hf0⟩ := k1.c1
          have K1 := Lib.hid k1
          have O3' := Lib.hid O3
          have Hg3 := Lib.hid hg3
          have Hat := Lib.hid hat3
          clear O3 hg3 hat3 k1
          refine wpAnyIn_ready (rs := [7]) (by kernel_rfl) (by simp) ?_
          refine AllReadyIn.cons rfl (fun K hK => ?_) ?_
          ·skip
           go_simp
           refine hK _ _ ?_
           clear hK K
           refine wpAnyIn_done (by kernel_rfl) ?_ _
           have FIN := app_round (B' := W0.heap.size) hN2 hB I1.out I2.out I3.out i4 i5 Hb.out O3'.out Hg3.out Hat.out
           rw [← Hsn.out] at FIN
           gi_wp2
           exact FIN
          exact AllReadyIn.nil
         exact AllReadyIn.nil
        exact AllReadyIn.nil
       exact AllReadyIn.nil
      exact AllReadyIn.nil
     exact AllReadyIn.nil
    refine AllReadyIn.cons rfl (fun K hK => ?_) ?_
    ·skip
     go_simp
     refine hK _ _ ?_
     clear hK K
     refine wpAnyIn_ready (rs := [0, 3]) (by kernel_rfl) (by simp) ?_
     refine AllReadyIn.cons rfl (fun K hK => ?_) ?_
     ·skip
      go_simp
      refine hK _ _ ?_
      clear hK K
      refine wpAnyIn_ready (rs := [3]) (by kernel_rfl) (by simp) ?_
      refine AllReadyIn.cons rfl (fun K hK => ?_) ?_
      ·skip
       go_simp
       refine hK _ _ ?_
       clear hK K
       refine wpAnyIn_ready (rs := [4]) (by kernel_rfl) (by simp) ?_
       refine AllReadyIn.cons rfl (fun K hK => ?_) ?_
       ·skip
        go_simp
        refine ⟨trivial, ?_⟩
        refine (CallsIn.inRound l (callsIn_wide.2 (HM.out _ _ (SlI.lit2 (x := ⟨x0, ⟨x1, x2, x3, x4⟩, ⟨x5, x6, x7, x8⟩⟩) (y := ⟨y0, ⟨y1, y2, y3, y4⟩, ⟨y5, y6, y7, y8⟩⟩) (Blk.new W _ _).drew (by simp))))).mono ?_
        rintro e w2 ⟨rfl, hb⟩
        refine hK _ _ ?_
        clear hK K
        have j1 := ((I1.out.alloc (.cells #[.bool x0, .int .i64 x1, .bool x2, .int .u64 x3, .int .i64 x4, .int .i64 x5, .bool x6, .int .u64 x7, .int .i64 x8, .bool y0, .int .i64 y1, .bool y2, .int .u64 y3, .int .i64 y4, .int .i64 y5, .bool y6, .int .u64 y7, .int .i64 y8] 39)).drew).call hb
        obtain ⟨g0, gf0⟩ := j1.c1
        have J1 := Lib.hid j1
        have J2 := Lib.hid (((I2.out.alloc (.cells #[.bool x0, .int .i64 x1, .bool x2, .int .u64 x3, .int .i64 x4, .int .i64 x5, .bool x6, .int .u64 x7, .int .i64 x8, .bool y0, .int .i64 y1, .bool y2, .int .u64 y3, .int .i64 y4, .int .i64 y5, .bool y6, .int .u64 y7, .int .i64 y8] 39)).drew).call hb)
        have hLw := j1.lt
        have Hb := Lib.hid hb
        clear hb j1
        refine wpAnyIn_ready (rs := [5]) (by kernel_rfl) (by simp) ?_
        refine AllReadyIn.cons rfl (fun K hK => ?_) ?_
        ·skip
         go_simp
         refine hK _ _ ?_
         clear hK K
         refine wpAnyIn_ready (rs := [6]) (by kernel_rfl) (by simp) ?_
         refine AllReadyIn.cons rfl (fun K hK => ?_) ?_
         ·skip
          refine stepIn_appI (by rfl) (.tmp 18) (.tmp 23) (by rfl) w.heap.size v L (by rfl) (J2.out.alloc (.cells #[.bool r0, .int .i64 r1, .bool r2, .int .u64 r3, .int .i64 r4, .int .i64 r5, .bool r6, .int .u64 r7, .int .i64 r8] 39)) (w2.heap.size + 1) ⟨w2.heap.size, 0, none⟩ 1 1 [⟨r0, ⟨r1, r2, r3, r4⟩, ⟨r5, r6, r7, r8⟩⟩] (by rfl) (SlI.lit1 (Blk.new w2 _ _) (by omega)) (by omega) (by simp; omega) ?_
          intro v3 w3 O3 hg3 hat3
          obtain ⟨A3, n3, c3, rfl⟩ := O3.form
          refine hK _ _ ?_
          clear hK K
          have k1 := (J1.out.alloc (.cells #[.bool r0, .int .i64 r1, .bool r2, .int .u64 r3, .int .i64 r4, .int .i64 r5, .bool r6, .int .u64 r7, .int .i64 r8] 39)).grown hg3 (fun e => by have := I3.out _ e.symm; omega)
          obtain ⟨h0, hf0⟩ := k1.c1
          have K1 := Lib.hid k1
          have O3' := Lib.hid O3
          have Hg3 := Lib.hid hg3
          have Hat := Lib.hid hat3
          clear O3 hg3 hat3 k1
          refine wpAnyIn_ready (rs := [7]) (by kernel_rfl) (by simp) ?_
          refine AllReadyIn.cons rfl (fun K hK => ?_) ?_
          ·skip
           go_simp
           refine hK _ _ ?_
           clear hK K
           refine wpAnyIn_done (by kernel_rfl) ?_ _
           have FIN := app_round (B' := W0.heap.size) hN2 hB I1.out I2.out I3.out i4 i5 Hb.out O3'.out Hg3.out Hat.out
           rw [← Hsn.out] at FIN
           gi_wp2
           exact FIN
          exact AllReadyIn.nil
         exact AllReadyIn.nil
        exact AllReadyIn.nil
       exact AllReadyIn.nil
      exact AllReadyIn.nil
     refine AllReadyIn.cons rfl (fun K hK => ?_) ?_
     ·skip
      go_simp
      refine hK _ _ ?_
      clear hK K
      refine wpAnyIn_ready (rs := [0, 4]) (by kernel_rfl) (by simp) ?_
      refine AllReadyIn.cons rfl (fun K hK => ?_) ?_
      ·skip
       go_simp
       refine hK _ _ ?_
       clear hK K
       refine wpAnyIn_ready (rs := [4]) (by kernel_rfl) (by simp) ?_
       refine AllReadyIn.cons rfl (fun K hK => ?_) ?_
       ·skip
        go_simp
        refine ⟨trivial, ?_⟩
        refine (CallsIn.inRound l (callsIn_wide.2 (HM.out _ _ (SlI.lit2 (x := ⟨x0, ⟨x1, x2, x3, x4⟩, ⟨x5, x6, x7, x8⟩⟩) (y := ⟨y0, ⟨y1, y2, y3, y4⟩, ⟨y5, y6, y7, y8⟩⟩) (Blk.new W _ _).drew (by simp))))).mono ?_
        rintro e w2 ⟨rfl, hb⟩
        refine hK _ _ ?_
        clear hK K
        have j1 := ((I1.out.alloc (.cells #[.bool x0, .int .i64 x1, .bool x2, .int .u64 x3, .int .i64 x4, .int .i64 x5, .bool x6, .int .u64 x7, .int .i64 x8, .bool y0, .int .i64 y1, .bool y2, .int .u64 y3, .int .i64 y4, .int .i64 y5, .bool y6, .int .u64 y7, .int .i64 y8] 39)).drew).call hb
        obtain ⟨g0, gf0⟩ := j1.c1
        have J1 := Lib.hid j1
        have J2 := Lib.hid (((I2.out.alloc (.cells #[.bool x0, .int .i64 x1, .bool x2, .int .u64 x3, .int .i64 x4, .int .i64 x5, .bool x6, .int .u64 x7, .int .i64 x8, .bool y0, .int .i64 y1, .bool y2, .int .u64 y3, .int .i64 y4, .int .i64 y5, .bool y6, .int .u64 y7, .int .i64 y8] 39)).drew).call hb)
        have hLw := j1.lt
        have Hb := Lib.hid hb
        clear hb j1
        refine wpAnyIn_ready (rs := [5]) (by kernel_rfl) (by simp) ?_
        refine AllReadyIn.cons rfl (fun K hK => ?_) ?_
        ·skip
         go_simp
         refine hK _ _ ?_
         clear hK K
         refine wpAnyIn_ready (rs := [6]) (by kernel_rfl) (by simp) ?_
         refine AllReadyIn.cons rfl (fun K hK => ?_) ?_
         ·skip
          refine stepIn_appI (by rfl) (.tmp 18) (.tmp 23) (by rfl) w.heap.size v L (by rfl) (J2.out.alloc (.cells #[.bool r0, .int .i64 r1, .bool r2, .int .u64 r3, .int .i64 r4, .int .i64 r5, .bool r6, .int .u64 r7, .int .i64 r8] 39)) (w2.heap.size + 1) ⟨w2.heap.size, 0, none⟩ 1 1 [⟨r0, ⟨r1, r2, r3, r4⟩, ⟨r5, r6, r7, r8⟩⟩] (by rfl) (SlI.lit1 (Blk.new w2 _ _) (by omega)) (by omega) (by simp; omega) ?_
          intro v3 w3 O3 hg3 hat3
          obtain ⟨A3, n3, c3, rfl⟩ := O3.form
          refine hK _ _ ?_
          clear hK K
          have k1 := (J1.out.alloc (.cells #[.bool r0, .int .i64 r1, .bool r2, .int .u64 r3, .int .i64 r4, .int .i64 r5, .bool r6, .int .u64 r7, .int .i64 r8] 39)).grown hg3 (fun e => by have := I3.out _ e.symm; omega)
          obtain ⟨h0, hf0⟩ := k1.c1
          have K1 := Lib.hid k1
          have O3' := Lib.hid O3
          have Hg3 := Lib.hid hg3
          have Hat := Lib.hid hat3
          clear O3 hg3 hat3 k1
          refine wpAnyIn_ready (rs := [7]) (by kernel_rfl) (by simp) ?_
          refine AllReadyIn.cons rfl (fun K hK => ?_) ?_
          ·skip
           go_simp
           refine hK _ _ ?_
           clear hK K
           refine wpAnyIn_done (by kernel_rfl) ?_ _
           have FIN := app_round (B' := W0.heap.size) hN2 hB I1.out I2.out I3.out i4 i5 Hb.out O3'.out Hg3.out Hat.out
           rw [← Hsn.out] at FIN
           gi_wp2
           exact FIN
          exact AllReadyIn.nil
         exact AllReadyIn.nil
        exact AllReadyIn.nil
       exact AllReadyIn.nil
      refine AllReadyIn.cons rfl (fun K hK => ?_) ?_
      ·skip
       go_simp
       refine ⟨trivial, ?_⟩
       refine (CallsIn.inRound l (callsIn_wide.2 (HM.out _ _ (SlI.lit2 (x := ⟨x0, ⟨x1, x2, x3, x4⟩, ⟨x5, x6, x7, x8⟩⟩) (y := ⟨y0, ⟨y1, y2, y3, y4⟩, ⟨y5, y6, y7, y8⟩⟩) (Blk.new W _ _).drew (by simp))))).mono ?_
       rintro e w2 ⟨rfl, hb⟩
       refine hK _ _ ?_
       clear hK K
       have j1 := ((I1.out.alloc (.cells #[.bool x0, .int .i64 x1, .bool x2, .int .u64 x3, .int .i64 x4, .int .i64 x5, .bool x6, .int .u64 x7, .int .i64 x8, .bool y0, .int .i64 y1, .bool y2, .int .u64 y3, .int .i64 y4, .int .i64 y5, .bool y6, .int .u64 y7, .int .i64 y8] 39)).drew).call hb
       obtain ⟨g0, gf0⟩ := j1.c1
       have J1 := Lib.hid j1
       have J2 := Lib.hid (((I2.out.alloc (.cells #[.bool x0, .int .i64 x1, .bool x2, .int .u64 x3, .int .i64 x4, .int .i64 x5, .bool x6, .int .u64 x7, .int .i64 x8, .bool y0, .int .i64 y1, .bool y2, .int .u64 y3, .int .i64 y4, .int .i64 y5, .bool y6, .int .u64 y7, .int .i64 y8] 39)).drew).call hb)
       have hLw := j1.lt
       have Hb := Lib.hid hb
       clear hb j1
       refine wpAnyIn_ready (rs := [0, 5]) (by kernel_rfl) (by simp) ?_
       refine AllReadyIn.cons rfl (fun K hK => ?_) ?_
       ·skip
        go_simp
        refine hK _ _ ?_
        clear hK K
        refine wpAnyIn_ready (rs := [5]) (by kernel_rfl) (by simp) ?_
        refine AllReadyIn.cons rfl (fun K hK => ?_) ?_
        ·skip
         go_simp
         refine hK _ _ ?_
         clear hK K
         refine wpAnyIn_ready (rs := [6]) (by kernel_rfl) (by simp) ?_
         refine AllReadyIn.cons rfl (fun K hK => ?_) ?_
         ·skip
          refine stepIn_appI (by rfl) (.tmp 18) (.tmp 23) (by rfl) w.heap.size v L (by rfl) (J2.out.alloc (.cells #[.bool r0, .int .i64 r1, .bool r2, .int .u64 r3, .int .i64 r4, .int .i64 r5, .bool r6, .int .u64 r7, .int .i64 r8] 39)) (w2.heap.size + 1) ⟨w2.heap.size, 0, none⟩ 1 1 [⟨r0, ⟨r1, r2, r3, r4⟩, ⟨r5, r6, r7, r8⟩⟩] (by rfl) (SlI.lit1 (Blk.new w2 _ _) (by omega)) (by omega) (by simp; omega) ?_
          intro v3 w3 O3 hg3 hat3
          obtain ⟨A3, n3, c3, rfl⟩ := O3.form
          refine hK _ _ ?_
          clear hK K
          have k1 := (J1.out.alloc (.cells #[.bool r0, .int .i64 r1, .bool r2, .int .u64 r3, .int .i64 r4, .int .i64 r5, .bool r6, .int .u64 r7, .int .i64 r8] 39)).grown hg3 (fun e => by have := I3.out _ e.symm; omega)
          obtain ⟨h0, hf0⟩ := k1.c1
          have K1 := Lib.hid k1
          have O3' := Lib.hid O3
          have Hg3 := Lib.hid hg3
          have Hat := Lib.hid hat3
          clear O3 hg3 hat3 k1
          refine wpAnyIn_ready (rs := [7]) (by kernel_rfl) (by simp) ?_
          refine AllReadyIn.cons rfl (fun K hK => ?_) ?_
          ·skip
           go_simp
           refine hK _ _ ?_
           clear hK K
           refine wpAnyIn_done (by kernel_rfl) ?_ _
           have FIN := app_round (B' := W0.heap.size) hN2 hB I1.out I2.out I3.out i4 i5 Hb.out O3'.out Hg3.out Hat.out
           rw [← Hsn.out] at FIN
           gi_wp2
           exact FIN
          exact AllReadyIn.nil
         exact AllReadyIn.nil
        exact AllReadyIn.nil
       refine AllReadyIn.cons rfl (fun K hK => ?_) ?_
       ·skip
        go_simp
        refine hK _ _ ?_
        clear hK K
        refine wpAnyIn_ready (rs := [0]) (by kernel_rfl) (by simp) ?_
        refine AllReadyIn.cons rfl (fun K hK => ?_) ?_
        ·skip
         go_simp
         refine hK _ _ ?_
         clear hK K
         refine wpAnyIn_ready (rs := [6]) (by kernel_rfl) (by simp) ?_
         refine AllReadyIn.cons rfl (fun K hK => ?_) ?_
         ·skip
          refine stepIn_appI (by rfl) (.tmp 18) (.tmp 23) (by rfl) w.heap.size v L (by rfl) (J2.out.alloc (.cells #[.bool r0, .int .i64 r1, .bool r2, .int .u64 r3, .int .i64 r4, .int .i64 r5, .bool r6, .int .u64 r7, .int .i64 r8] 39)) (w2.heap.size + 1) ⟨w2.heap.size, 0, none⟩ 1 1 [⟨r0, ⟨r1, r2, r3, r4⟩, ⟨r5, r6, r7, r8⟩⟩] (by rfl) (SlI.lit1 (Blk.new w2 _ _) (by omega)) (by omega) (by simp; omega) ?_
          intro v3 w3 O3 hg3 hat3
          obtain ⟨A3, n3, c3, rfl⟩ := O3.form
          refine hK _ _ ?_
          clear hK K
          have k1 := (J1.out.alloc (.cells #[.bool r0, .int .i64 r1, .bool r2, .int .u64 r3, .int .i64 r4, .int .i64 r5, .bool r6, .int .u64 r7, .int .i64 r8] 39)).grown hg3 (fun e => by have := I3.out _ e.symm; omega)
          obtain ⟨h0, hf0⟩ := k1.c1
          have K1 := Lib.hid k1
          have O3' := Lib.hid O3
          have Hg3 := Lib.hid hg3
          have Hat := Lib.hid hat3
          clear O3 hg3 hat3 k1
          refine wpAnyIn_ready (rs := [7]) (by kernel_rfl) (by simp) ?_
          refine AllReadyIn.cons rfl (fun K hK => ?_) ?_
          ·skip
           go_simp
           refine hK _ _ ?_
           clear hK K
           refine wpAnyIn_done (by kernel_rfl) ?_ _
           have FIN := app_round (B' := W0.heap.size) hN2 hB I1.out I2.out I3.out i4 i5 Hb.out O3'.out Hg3.out Hat.out
           rw [← Hsn.out] at FIN
           gi_wp2
           exact FIN
          exact AllReadyIn.nil
         exact AllReadyIn.nil
        exact AllReadyIn.nil
       exact AllReadyIn.nil
      exact AllReadyIn.nil
     exact AllReadyIn.nil
    exact AllReadyIn.nil
   refine AllReadyIn.cons rfl (fun K hK => ?_) ?_
   ·skip
    go_simp
    refine hK _ _ ?_
    clear hK K
    refine wpAnyIn_ready (rs := [0, 1]) (by kernel_rfl) (by simp) ?_
    refine AllReadyIn.cons rfl (fun K hK => ?_) ?_
    ·skip
     go_simp
     refine hK _ _ ?_
     clear hK K
     refine wpAnyIn_ready (rs := [1]) (by kernel_rfl) (by simp) ?_
     refine AllReadyIn.cons rfl (fun K hK => ?_) ?_
     ·skip
      go_simp
      refine hK _ _ ?_
      clear hK K
      refine wpAnyIn_ready (rs := [3]) (by kernel_rfl) (by simp) ?_
      refine AllReadyIn.cons rfl (fun K hK => ?_) ?_
      ·skip
       go_simp
       refine hK _ _ ?_
       clear hK K
       refine wpAnyIn_ready (rs := [4]) (by kernel_rfl) (by simp) ?_
       refine AllReadyIn.cons rfl (fun K hK => ?_) ?_
       ·skip
        go_simp
        refine ⟨trivial, ?_⟩
        refine (CallsIn.inRound l (callsIn_wide.2 (HM.out _ _ (SlI.lit2 (x := ⟨x0, ⟨x1, x2, x3, x4⟩, ⟨x5, x6, x7, x8⟩⟩) (y := ⟨y0, ⟨y1, y2, y3, y4⟩, ⟨y5, y6, y7, y8⟩⟩) (Blk.new W _ _).drew (by simp))))).mono ?_
        rintro e w2 ⟨rfl, hb⟩
        refine hK _ _ ?_
        clear hK K
        have j1 := ((I1.out.alloc (.cells #[.bool x0, .int .i64 x1, .bool x2, .int .u64 x3, .int .i64 x4, .int .i64 x5, .bool x6, .int .u64 x7, .int .i64 x8, .bool y0, .int .i64 y1, .bool y2, .int .u64 y3, .int .i64 y4, .int .i64 y5, .bool y6, .int .u64 y7, .int .i64 y8] 39)).drew).call hb
        obtain ⟨g0, gf0⟩ := j1.c1
        have J1 := Lib.hid j1
        have J2 := Lib.hid (((I2.out.alloc (.cells #[.bool x0, .int .i64 x1, .bool x2, .int .u64 x3, .int .i64 x4, .int .i64 x5, .bool x6, .int .u64 x7, .int .i64 x8, .bool y0, .int .i64 y1, .bool y2, .int .u64 y3, .int .i64 y4, .int .i64 y5, .bool y6, .int .u64 y7, .int .i64 y8] 39)).drew).call hb)
        have hLw := j1.lt
        have Hb := Lib.hid hb
        clear hb j1
        refine wpAnyIn_ready (rs := [5]) (by kernel_rfl) (by simp) ?_
        refine AllReadyIn.cons rfl (fun K hK => ?_) ?_
        ·skip
         go_simp
         refine hK _ _ ?_
         clear hK K
         refine wpAnyIn_ready (rs := [6]) (by kernel_rfl) (by simp) ?_
         refine AllReadyIn.cons rfl (fun K hK => ?_) ?_
         ·skip
          refine stepIn_appI (by rfl) (.tmp 18) (.tmp 23) (by rfl) w.heap.size v L (by rfl) (J2.out.alloc (.cells #[.bool r0, .int .i64 r1, .bool r2, .int .u64 r3, .int .i64 r4, .int .i64 r5, .bool r6, .int .u64 r7, .int .i64 r8] 39)) (w2.heap.size + 1) ⟨w2.heap.size, 0, none⟩ 1 1 [⟨r0, ⟨r1, r2, r3, r4⟩, ⟨r5, r6, r7, r8⟩⟩] (by rfl) (SlI.lit1 (Blk.new w2 _ _) (by omega)) (by omega) (by simp; omega) ?_
          intro v3 w3 O3 hg3 hat3
          obtain ⟨A3, n3, c3, rfl⟩ := O3.form
          refine hK _ _ ?_
          clear hK K
          have k1 := (J1.out.alloc (.cells #[.bool r0, .int .i64 r1, .bool r2, .int .u64 r3, .int .i64 r4, .int .i64 r5, .bool r6, .int .u64 r7, .int .i64 r8] 39)).grown hg3 (fun e => by have := I3.out _ e.symm; omega)
          obtain ⟨h0, hf0⟩ := k1.c1
          have K1 := Lib.hid k1
          have O3' := Lib.hid O3
          have Hg3 := Lib.hid hg3
          have Hat := Lib.hid hat3
          clear O3 hg3 hat3 k1
          refine wpAnyIn_ready (rs := [7]) (by kernel_rfl) (by simp) ?_
          refine AllReadyIn.cons rfl (fun K hK => ?_) ?_
          ·skip
           go_simp
           refine hK _ _ ?_
           clear hK K
           refine wpAnyIn_done (by kernel_rfl) ?_ _
           have FIN := app_round (B' := W0.heap.size) hN2 hB I1.out I2.out I3.out i4 i5 Hb.out O3'.out Hg3.out Hat.out
           rw [← Hsn.out] at FIN
           gi_wp2
           exact FIN
          exact AllReadyIn.nil
         exact AllReadyIn.nil
        exact AllReadyIn.nil
       exact AllReadyIn.nil
      exact AllReadyIn.nil
     exact AllReadyIn.nil
    refine AllReadyIn.cons rfl (fun K hK => ?_) ?_
    ·skip
     go_simp
     refine hK _ _ ?_
     clear hK K
     refine wpAnyIn_ready (rs := [0, 3]) (by kernel_rfl) (by simp) ?_
     refine AllReadyIn.cons rfl (fun K hK => ?_) ?_
     ·skip
      go_simp
      refine hK _ _ ?_
      clear hK K
      refine wpAnyIn_ready (rs := [3]) (by kernel_rfl) (by simp) ?_
      refine AllReadyIn.cons rfl (fun K hK => ?_) ?_
      ·skip
       go_simp
       refine hK _ _ ?_
       clear hK K
       refine wpAnyIn_ready (rs := [4]) (by kernel_rfl) (by simp) ?_
       refine AllReadyIn.cons rfl (fun K hK => ?_) ?_
       ·skip
        go_simp
        refine ⟨trivial, ?_⟩
        refine (CallsIn.inRound l (callsIn_wide.2 (HM.out _ _ (SlI.lit2 (x := ⟨x0, ⟨x1, x2, x3, x4⟩, ⟨x5, x6, x7, x8⟩⟩) (y := ⟨y0, ⟨y1, y2, y3, y4⟩, ⟨y5, y6, y7, y8⟩⟩) (Blk.new W _ _).drew (by simp))))).mono ?_
        rintro e w2 ⟨rfl, hb⟩
        refine hK _ _ ?_
        clear hK K
        have j1 := ((I1.out.alloc (.cells #[.bool x0, .int .i64 x1, .bool x2, .int .u64 x3, .int .i64 x4, .int .i64 x5, .bool x6, .int .u64 x7, .int .i64 x8, .bool y0, .int .i64 y1, .bool y2, .int .u64 y3, .int .i64 y4, .int .i64 y5, .bool y6, .int .u64 y7, .int .i64 y8] 39)).drew).call hb
        obtain ⟨g0, gf0⟩ := j1.c1
        have J1 := Lib.hid j1
        have J2 := Lib.hid (((I2.out.alloc (.cells #[.bool x0, .int .i64 x1, .bool x2, .int .u64 x3, .int .i64 x4, .int .i64 x5, .bool x6, .int .u64 x7, .int .i64 x8, .bool y0, .int .i64 y1, .bool y2, .int .u64 y3, .int .i64 y4, .int .i64 y5, .bool y6, .int .u64 y7, .int .i64 y8] 39)).drew).call hb)
        have hLw := j1.lt
        have Hb := Lib.hid hb
        clear hb j1
        refine wpAnyIn_ready (rs := [5]) (by kernel_rfl) (by simp) ?_
        refine AllReadyIn.cons rfl (fun K hK => ?_) ?_
        ·skip
         go_simp
         refine hK _ _ ?_
         clear hK K
         refine wpAnyIn_ready (rs := [6]) (by kernel_rfl) (by simp) ?_
         refine AllReadyIn.cons rfl (fun K hK => ?_) ?_
         ·skip
          refine stepIn_appI (by rfl) (.tmp 18) (.tmp 23) (by rfl) w.heap.size v L (by rfl) (J2.out.alloc (.cells #[.bool r0, .int .i64 r1, .bool r2, .int .u64 r3, .int .i64 r4, .int .i64 r5, .bool r6, .int .u64 r7, .int .i64 r8] 39)) (w2.heap.size + 1) ⟨w2.heap.size, 0, none⟩ 1 1 [⟨r0, ⟨r1, r2, r3, r4⟩, ⟨r5, r6, r7, r8⟩⟩] (by rfl) (SlI.lit1 (Blk.new w2 _ _) (by omega)) (by omega) (by simp; omega) ?_
          intro v3 w3 O3 hg3 hat3
          obtain ⟨A3, n3, c3, rfl⟩ := O3.form
          refine hK _ _ ?_
          clear hK K
          have k1 := (J1.out.alloc (.cells #[.bool r0, .int .i64 r1, .bool r2, .int .u64 r3, .int .i64 r4, .int .i64 r5, .bool r6, .int .u64 r7, .int .i64 r8] 39)).grown hg3 (fun e => by have := I3.out _ e.symm; omega)
          obtain ⟨h0, hf0⟩ := k1.c1
          have K1 := Lib.hid k1
          have O3' := Lib.hid O3
          have Hg3 := Lib.hid hg3
          have Hat := Lib.hid hat3
          clear O3 hg3 hat3 k1
          refine wpAnyIn_ready (rs := [7]) (by kernel_rfl) (by simp) ?_
          refine AllReadyIn.cons rfl (fun K hK => ?_) ?_
          ·skip
           go_simp
           refine hK _ _ ?_
           clear hK K
           refine wpAnyIn_done (by kernel_rfl) ?_ _
           have FIN := app_round (B' := W0.heap.size) hN2 hB I1.out I2.out I3.out i4 i5 Hb.out O3'.out Hg3.out Hat.out
           rw [← Hsn.out] at FIN
           gi_wp2
           exact FIN
          exact AllReadyIn.nil
         exact AllReadyIn.nil
        exact AllReadyIn.nil
       exact AllReadyIn.nil
      exact AllReadyIn.nil
     refine AllReadyIn.cons rfl (fun K hK => ?_) ?_
     ·skip
      go_simp
      refine hK _ _ ?_
      clear hK K
      refine wpAnyIn_ready (rs := [0, 4]) (by kernel_rfl) (by simp) ?_
      refine AllReadyIn.cons rfl (fun K hK => ?_) ?_
      ·skip
       go_simp
       refine hK _ _ ?_
       clear hK K
       refine wpAnyIn_ready (rs := [4]) (by kernel_rfl) (by simp) ?_
       refine AllReadyIn.cons rfl (fun K hK => ?_) ?_
       ·skip
        go_simp
        refine ⟨trivial, ?_⟩
        refine (CallsIn.inRound l (callsIn_wide.2 (HM.out _ _ (SlI.lit2 (x := ⟨x0, ⟨x1, x2, x3, x4⟩, ⟨x5, x6, x7, x8⟩⟩) (y := ⟨y0, ⟨y1, y2, y3, y4⟩, ⟨y5, y6, y7, y8⟩⟩) (Blk.new W _ _).drew (by simp))))).mono ?_
        rintro e w2 ⟨rfl, hb⟩
        refine hK _ _ ?_
        clear hK K
        have j1 := ((I1.out.alloc (.cells #[.bool x0, .int .i64 x1, .bool x2, .int .u64 x3, .int .i64 x4, .int .i64 x5, .bool x6, .int .u64 x7, .int .i64 x8, .bool y0, .int .i64 y1, .bool y2, .int .u64 y3, .int .i64 y4, .int .i64 y5, .bool y6, .int .u64 y7, .int .i64 y8] 39)).drew).call hb
        obtain ⟨g0, gf0⟩ := j1.c1
        have J1 := Lib.hid j1
        have J2 := Lib.hid (((I2.out.alloc (.cells #[.bool x0, .int .i64 x1, .bool x2, .int .u64 x3, .int .i64 x4, .int .i64 x5, .bool x6, .int .u64 x7, .int .i64 x8, .bool y0, .int .i64 y1, .bool y2, .int .u64 y3, .int .i64 y4, .int .i64 y5, .bool y6, .int .u64 y7, .int .i64 y8] 39)).drew).call hb)
        have hLw := j1.lt
        have Hb := Lib.hid hb
        clear hb j1
        refine wpAnyIn_ready (rs := [5]) (by kernel_rfl) (by simp) ?_
        refine AllReadyIn.cons rfl (fun K hK => ?_) ?_
        ·skip
         go_simp
         refine hK _ _ ?_
         clear hK K
         refine wpAnyIn_ready (rs := [6]) (by kernel_rfl) (by simp) ?_
         refine AllReadyIn.cons rfl (fun K hK => ?_) ?_
         ·skip
          refine stepIn_appI (by rfl) (.tmp 18) (.tmp 23) (by rfl) w.heap.size v L (by rfl) (J2.out.alloc (.cells #[.bool r0, .int .i64 r1, .bool r2, .int .u64 r3, .int .i64 r4, .int .i64 r5, .bool r6, .int .u64 r7, .int .i64 r8] 39)) (w2.heap.size + 1) ⟨w2.heap.size, 0, none⟩ 1 1 [⟨r0, ⟨r1, r2, r3, r4⟩, ⟨r5, r6, r7, r8⟩⟩] (by rfl) (SlI.lit1 (Blk.new w2 _ _) (by omega)) (by omega) (by simp; omega) ?_
          intro v3 w3 O3 hg3 hat3
          obtain ⟨A3, n3, c3, rfl⟩ := O3.form
          refine hK _ _ ?_
          clear hK K
          have k1 := (J1.out.alloc (.cells #[.bool r0, .int .i64 r1, .bool r2, .int .u64 r3, .int .i64 r4, .int .i64 r5, .bool r6, .int .u64 r7, .int .i64 r8] 39)).grown hg3 (fun e => by have := I3.out _ e.symm; omega)
          obtain ⟨h0, hf0⟩ := k1.c1
          have K1 := Lib.hid k1
          have O3' := Lib.hid O3
          have Hg3 := Lib.hid hg3
          have Hat := Lib.hid hat3
          clear O3 hg3 hat3 k1
          refine wpAnyIn_ready (rs := [7]) (by kernel_rfl) (by simp) ?_
          refine AllReadyIn.cons rfl (fun K hK => ?_) ?_
          ·skip
           go_simp
           refine hK _ _ ?_
           clear hK K
           refine wpAnyIn_done (by kernel_rfl) ?_ _
           have FIN := app_round (B' := W0.heap.size) hN2 hB I1.out I2.out I3.out i4 i5 Hb.out O3'.out Hg3.out Hat.out
           rw [← Hsn.out] at FIN
           gi_wp2
           exact FIN
          exact AllReadyIn.nil
         exact AllReadyIn.nil
        exact AllReadyIn.nil
       exact AllReadyIn.nil
      refine AllReadyIn.cons rfl (fun K hK => ?_) ?_
      ·skip
       go_simp
       refine ⟨trivial, ?_⟩
       refine (CallsIn.inRound l (callsIn_wide.2 (HM.out _ _ (SlI.lit2 (x := ⟨x0, ⟨x1, x2, x3, x4⟩, ⟨x5, x6, x7, x8⟩⟩) (y := ⟨y0, ⟨y1, y2, y3, y4⟩, ⟨y5, y6, y7, y8⟩⟩) (Blk.new W _ _).drew (by simp))))).mono ?_
       rintro e w2 ⟨rfl, hb⟩
       refine hK _ _ ?_
       clear hK K
       have j1 := ((I1.out.alloc (.cells #[.bool x0, .int .i64 x1, .bool x2, .int .u64 x3, .int .i64 x4, .int .i64 x5, .bool x6, .int .u64 x7, .int .i64 x8, .bool y0, .int .i64 y1, .bool y2, .int .u64 y3, .int .i64 y4, .int .i64 y5, .bool y6, .int .u64 y7, .int .i64 y8] 39)).drew).call hb
       obtain ⟨g0, gf0⟩ := j1.c1
       have J1 := Lib.hid j1
       have J2 := Lib.hid (((I2.out.alloc (.cells #[.bool x0, .int .i64 x1, .bool x2, .int .u64 x3, .int .i64 x4, .int .i64 x5, .bool x6, .int .u64 x7, .int .i64 x8, .bool y0, .int .i64 y1, .bool y2, .int .u64 y3, .int .i64 y4, .int .i64 y5, .bool y6, .int .u64 y7, .int .i64 y8] 39)).drew).call hb)
       have hLw := j1.lt
       have Hb := Lib.hid hb
       clear hb j1
       refine wpAnyIn_ready (rs := [0, 5]) (by kernel_rfl) (by simp) ?_
       refine AllReadyIn.cons rfl (fun K hK => ?_) ?_
       ·skip
        go_simp
        refine hK _ _ ?_
        clear hK K
        refine wpAnyIn_ready (rs := [5]) (by kernel_rfl) (by simp) ?_
        refine AllReadyIn.cons rfl (fun K hK => ?_) ?_
        ·skip
         go_simp
         refine hK _ _ ?_
         clear hK K
         refine wpAnyIn_ready (rs := [6]) (by kernel_rfl) (by simp) ?_
         refine AllReadyIn.cons rfl (fun K hK => ?_) ?_
         ·skip
          refine stepIn_appI (by rfl) (.tmp 18) (.tmp 23) (by rfl) w.heap.size v L (by rfl) (J2.out.alloc (.cells #[.bool r0, .int .i64 r1, .bool r2, .int .u64 r3, .int .i64 r4, .int .i64 r5, .bool r6, .int .u64 r7, .int .i64 r8] 39)) (w2.heap.size + 1) ⟨w2.heap.size, 0, none⟩ 1 1 [⟨r0, ⟨r1, r2, r3, r4⟩, ⟨r5, r6, r7, r8⟩⟩] (by rfl) (SlI.lit1 (Blk.new w2 _ _) (by omega)) (by omega) (by simp; omega) ?_
          intro v3 w3 O3 hg3 hat3
          obtain ⟨A3, n3, c3, rfl⟩ := O3.form
          refine hK _ _ ?_
          clear hK K
          have k1 := (J1.out.alloc (.cells #[.bool r0, .int .i64 r1, .bool r2, .int .u64 r3, .int .i64 r4, .int .i64 r5, .bool r6, .int .u64 r7, .int .i64 r8] 39)).grown hg3 (fun e => by have := I3.out _ e.symm; omega)
          obtain ⟨h0, hf0⟩ := k1.c1
          have K1 := Lib.hid k1
          have O3' := Lib.hid O3
          have Hg3 := Lib.hid hg3
          have Hat := Lib.hid hat3
          clear O3 hg3 hat3 k1
          refine wpAnyIn_ready (rs := [7]) (by kernel_rfl) (by simp) ?_
          refine AllReadyIn.cons rfl (fun K hK => ?_) ?_
          ·skip
           go_simp
           refine hK _ _ ?_
           clear hK K
           refine wpAnyIn_done (by kernel_rfl) ?_ _
           have FIN := app_round (B' := W0.heap.size) hN2 hB I1.out I2.out I3.out i4 i5 Hb.out O3'.out Hg3.out Hat.out
           rw [← Hsn.out] at FIN
           gi_wp2
           exact FIN
          exact AllReadyIn.nil
         exact AllReadyIn.nil
        exact AllReadyIn.nil
       refine AllReadyIn.cons rfl (fun K hK => ?_) ?_
       ·skip
        go_simp
        refine hK _ _ ?_
        clear hK K
        refine wpAnyIn_ready (rs := [0]) (by kernel_rfl) (by simp) ?_
        refine AllReadyIn.cons rfl (fun K hK => ?_) ?_
        ·skip
         go_simp
         refine hK _ _ ?_
         clear hK K
         refine wpAnyIn_ready (rs := [6]) (by kernel_rfl) (by simp) ?_
         refine AllReadyIn.cons rfl (fun K hK => ?_) ?_
         ·skip
          refine stepIn_appI (by rfl) (.tmp 18) (.tmp 23) (by rfl) w.heap.size v L (by rfl) (J2.out.alloc (.cells #[.bool r0, .int .i64 r1, .bool r2, .int .u64 r3, .int .i64 r4, .int .i64 r5, .bool r6, .int .u64 r7, .int .i64 r8] 39)) (w2.heap.size + 1) ⟨w2.heap.size, 0, none⟩ 1 1 [⟨r0, ⟨r1, r2, r3, r4⟩, ⟨r5, r6, r7, r8⟩⟩] (by rfl) (SlI.lit1 (Blk.new w2 _ _) (by omega)) (by omega) (by simp; omega) ?_
          intro v3 w3 O3 hg3 hat3
          obtain ⟨A3, n3, c3, rfl⟩ := O3.form
          refine hK _ _ ?_
          clear hK K
          have k1 := (J1.out.alloc (.cells #[.bool r0, .int .i64 r1, .bool r2, .int .u64 r3, .int .i64 r4, .int .i64 r5, .bool r6, .int .u64 r7, .int .i64 r8] 39)).grown hg3 (fun e => by have := I3.out _ e.symm; omega)
          obtain ⟨h0, hf0⟩ := k1.c1
          have K1 := Lib.hid k1
          have O3' := Lib.hid O3
          have Hg3 := Lib.hid hg3
          have Hat := Lib.hid hat3
          clear O3 hg3 hat3 k1
          refine wpAnyIn_ready (rs := [7]) (by kernel_rfl) (by simp) ?_
          refine AllReadyIn.cons rfl (fun K hK => ?_) ?_
          ·skip
           go_simp
           refine hK _ _ ?_
           clear hK K
           refine wpAnyIn_done (by kernel_rfl) ?_ _
           have FIN := app_round (B' := W0.heap.size) hN2 hB I1.out I2.out I3.out i4 i5 Hb.out O3'.out Hg3.out Hat.out
           rw [← Hsn.out] at FIN
           gi_wp2
           exact FIN
          exact AllReadyIn.nil
         exact AllReadyIn.nil
        exact AllReadyIn.nil
       exact AllReadyIn.nil
      exact AllReadyIn.nil
     exact AllReadyIn.nil
    exact AllReadyIn.nil
   exact AllReadyIn.nil
  case done =>
   rintro D zs W hD rfl ⟨⟨v, i1, i2, i3, i4, i5⟩, hB⟩ hK
   have hDl : D < W.heap.size := (Array.getElem?_eq_some_iff.1 hK).1
   rw [zip_map] at i2
   obtain ⟨A1, c1, rfl, S1⟩ := i2.sln (n := n) (by rw [List.length_zipWith]; omega)
   obtain ⟨q0, f0⟩ := i1.c1
   have HF := Lib.hid (fairB_calls A1 n c1 _ W S1 hn)
   have HK := Lib.hid hK
   have hBz := hB.size
   clear i1 i2 i3 i4 i5 S1 hK
   gi_wp2_with (refine ⟨trivial, ?_⟩; gi_at_call 21; refine (callsIn_wide.2 HF.out).mono ?_; rintro e w5 ⟨v5, rfl, O5, hb⟩)
   have hK' := (hb.block D hDl).trans HK.out
   have hb5 := (hB.trans (hb.mono hBz))
   refine ⟨by simp, .inl ⟨_, _, rfl, run_takeDeferred hK', ?_⟩⟩
   refine ⟨v5, by simp [results, Tryz.results16, go_sem], _, rfl, (O5.base hBz).same fun k hk => World.putObj_heap_other (by have := (O5.lt k hk).1; omega), hb5.trans (belowK_b (w := w) (Nat.le_refl _) _ D _ _ (by omega) hK' rfl rfl)⟩
  case stop =>
   rintro D c' pre W hD ⟨k, hk, rfl⟩ ⟨hF, hB⟩ hK
   exact hF.elim
 ·rw [if_neg hnm]
  have hq : ((n : Int) != m) = true := by simp; omega
  gi_wp2
  exact ⟨.slice none 0 0, by simp [results, Tryz.results16, go_sem], _, rfl, OwnI.nil _ _, Below.refl _ _⟩
end Go.Proofs.YtagojbgmgkkdpaaGreat.Wk
