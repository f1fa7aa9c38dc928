/- Walks: box.pairs and its iterator. -/
import Derived.Test.YtagojbgmgkkdpaaBoxB
import Derived.RangeFuncNested
import Derived.RangeFuncBound
import Derived.RangeFuncCalls
import Derived.RangeFuncLeaves
import Derived.OwnWalkIn
import Derived.TacticsInMore
import Derived.LoopNIn
import Derived.LoopIn
import Derived.Stop.RegionWithIn
namespace Go.Proofs.Ytagojbgmgkkdpaa.Wk
open Go.RowKit Go.Proofs.Pl Go.Proofs.YtagojbgmgkkdpaaW.PrintLast
set_option linter.unusedSimpArgs false
set_option linter.unusedVariables false

set_option maxHeartbeats 1000000 in
theorem pairs_calls (A : Option Addr) (n c : Nat) (B : Option Addr) (m d : Nat) (w : World) :
    Calls Try.prog 79 #[.slice A n c, .slice B m d] w fun e w' => e = .returned (.func (.func 113) #[] #[.pointer (some ⟨w.heap.size, 0, none⟩), .pointer (some ⟨w.heap.size + 1, 0, none⟩)]) ∧ w' = (w.alloc (.cells #[.slice A n c] 41)).alloc (.cells #[.slice B m d] 41) := by
  go_enter Try.func79, Try.ntmps79
  go_wp2
  go_ret
  exact ⟨rfl, rfl⟩

theorem run_min2 {P : Program} {w : World} (ts : Array TypeId) (t : TypeId) (x y : Int) : (Builtin.min_ ts t #[.int .i64 x, .int .i64 y]).run P w = .ok (.int .i64 (min x y)) w := by
  simp [Builtin.min_, Builtin.min2]
  omega
attribute [local go_sem] Oper.semAt_some run_min2

abbrev encP (x : Iv × Iv) : Array Value := #[.agg (ivCells x.1).toArray, .agg (ivCells x.2).toArray]
/-- what a round must keep: all below n₀, and the boxes of the two -/
def KpP (n₀ Ba Bb : Nat) (W W' : World) : Prop := Below n₀ W W' ∧ W'.heap[Ba]? = W.heap[Ba]? ∧ W'.heap[Bb]? = W.heap[Bb]?
theorem KpP.trans {n₀ Ba Bb : Nat} {X Y Z : World} (h : KpP n₀ Ba Bb X Y) (k : KpP n₀ Ba Bb Y Z) : KpP n₀ Ba Bb X Z := ⟨h.1.trans k.1, k.2.1.trans h.2.1, k.2.2.trans h.2.2⟩
theorem zip_snoc {xs ys : List Iv} {k : Nat} {x y : Iv} (hx : xs[k]? = some x) (hy : ys[k]? = some y) : (List.zip xs ys).take k ++ [(x, y)] = (List.zip xs ys).take (k + 1) := by
  rw [List.take_add_one, (List.getElem?_zip_eq_some (z := (x, y))).2 ⟨hx, hy⟩]
  rfl
set_option maxRecDepth 100000 in
set_option maxHeartbeats 4000000 in
theorem pairs1_in (m : Nat) (hm : 1 ≤ m) (l Ba Bb n₀ n c d : Nat) (A B : Option Addr) (xs ys : List Iv) (hn : n ≤ 1000) (J Jx : List (Iv × Iv) → World → Prop)
    (hJd : ∀ pre W W', J pre W → W.grownBy W' none → J pre W')
    (hY : ∀ pre x W, J pre W → pre.length < n → YieldAt Fence.wide (m - 1) Try.prog l (encP x) W fun e W' =>
      (e = .returned (.bool true) ∧ J (pre ++ [x]) W' ∧ KpP n₀ Ba Bb W W') ∨ (e = .returned (.bool false) ∧ Jx (pre ++ [x]) W'))
    (W : World) (hBa : Blk W Ba 41 #[.slice A n c]) (hBb : Blk W Bb 41 #[.slice B n d]) (hn₀ : n₀ ≤ W.heap.size) (hs : SlI W n₀ A n xs) (ht : SlI W n₀ B n ys) (h0 : J [] W) :
    CallsIn Fence.wide m Try.prog 113 #[.func (.yield l) #[] #[], .pointer (some ⟨Ba, 0, none⟩), .pointer (some ⟨Bb, 0, none⟩)] W fun e W' => (∃ v, e = .returned v) ∧
      ((∃ zs, zs = List.zip xs ys ∧ J zs W') ∨ (∃ pre, (∃ k, k ≤ n ∧ pre = (List.zip xs ys).take k) ∧ Jx pre W')) := by
  refine callsIn_of_wp Try.func113 rfl trivial ?_ rfl
  simp only [Try.ntmps113, List.size_toArray, List.length_cons, List.length_nil, Nat.reduceAdd, Nat.reduceSub, Array.replicate_succ, Array.replicate_zero, List.push_toArray, List.append_toArray, List.nil_append, List.cons_append]
  have hBc := hBa.cell 0
  have hBd := hBb.cell 0
  simp only [List.getElem?_toArray, List.getElem?_cons_zero] at hBc hBd
  have hmin : min (n : Int) n = n := by omega
  gi_wp2
  gi_loopw [4, 10] (fun _ i wr => ∃ k : Nat, k ≤ n ∧ i = .int .i64 k ∧ J ((List.zip xs ys).take k) wr ∧ Below n₀ W wr ∧ Blk wr Ba 41 #[.slice A n c] ∧ Blk wr Bb 41 #[.slice B n d])
    (fun _ i _ => n - (intOf i).toNat)
  case atStart => exact ⟨0, Nat.zero_le _, rfl, h0, Below.refl _ _, hBa, hBb⟩
  case round =>
    obtain ⟨k, hk, rfl, hJs, hnx, hBx, hBy⟩ := hrel
    by_cases hlt : k < n
    · obtain ⟨b, off, x, rfl, hbB, hx, e0, e1, e2, e3, e4, e5, e6, e7, e8⟩ := (hs.below hnx).at_ hlt
      obtain ⟨b', off', y, rfl, hbB', hy, g0, g1, g2, g3, g4, g5, g6, g7, g8⟩ := (ht.below hnx).at_ hlt
      have hz := zip_snoc hx hy
      have Hz := Lib.hid hz
      have hn1 : n₀ ≤ wr.heap.size := Nat.le_trans hn₀ hnx.size
      have hlen : ((List.zip xs ys).take k).length < n := by
        rw [List.length_take, List.length_zip, hs.1, ht.1]; omega
      have r0 := hBx.cell 0
      have r1 := hBy.cell 0
      simp only [List.getElem?_toArray, List.getElem?_cons_zero] at r0 r1
      have hJ3 := hJd _ _ _ hJs (show wr.grownBy wr.drew none from ⟨rfl, rfl, rfl, Nat.le_refl _, fun _ _ _ => rfl⟩)
      obtain ⟨fn, tmps, assign, body, hyy, hR⟩ := hY ((List.zip xs ys).take k) (x, y) wr.drew hJ3 hlen
      dsimp only [encP, ivCells] at hyy
      have hR' : RoundIn Fence.wide (m - 1) Try.prog l fn tmps assign body wr.drew fun e W' => ∃ r : Bool, e = .returned (.bool r) ∧ Hid ((r = true ∧ J ((List.zip xs ys).take (k + 1)) W' ∧ Below n₀ W wr ∧ KpP n₀ Ba Bb wr.drew W') ∨ (r = false ∧ Jx ((List.zip xs ys).take (k + 1)) W')) := by
        refine hR.mono ?_
        rw [Hz.out]
        rintro e W' (⟨rfl, h1, h2⟩ | ⟨rfl, h1⟩)
        · exact ⟨true, rfl, .inl ⟨rfl, h1, hnx, h2⟩⟩
        · exact ⟨false, rfl, .inr ⟨rfl, h1⟩⟩
      have HBX := Lib.hid hBx
      have HBY := Lib.hid hBy
      clear hR hY hJd hJ3 hJs Hz hz hx hy hnx hs ht hBx hBy hBa hBb hBc hBd h0 hlen
      obtain ⟨x0, ⟨x1, x2, x3, x4⟩, ⟨x5, x6, x7, x8⟩⟩ := x
      obtain ⟨y0, ⟨y1, y2, y3, y4⟩, ⟨y5, y6, y7, y8⟩⟩ := y
      dsimp only at e0 e1 e2 e3 e4 e5 e6 e7 e8 g0 g1 g2 g3 g4 g5 g6 g7 g8 hyy
      gi_wp2
      gi_region_with (refine hR'.mono ?_; rintro e W3 ⟨r, rfl, hr⟩; clear hR')
      all_goals cases r
      all_goals gi_wp2
      all_goals rcases hr.out with ⟨h, hJ4, hB3, hB4⟩ | ⟨h, hx3⟩
      all_goals first
        | (exfalso; cases h; done)
        | (refine bodyPost_ret (results_none rfl _ _ _) rfl ?_; exact ⟨⟨_, rfl⟩, .inr ⟨_, ⟨k + 1, by omega, rfl⟩, hx3⟩⟩)
        | (go_roundw
           case rel => exact ⟨k + 1, by omega, by go_num, hJ4, hB3.drew.trans hB4.1, hB4.2.1.trans HBX.out, hB4.2.2.trans HBY.out⟩
           case measure => simp [intOf]; omega)
    · obtain rfl : k = n := by omega
      have hzz : (List.zip xs ys).take k = List.zip xs ys := List.take_of_length_le (by rw [List.length_zip, hs.1, ht.1]; omega)
      rw [hzz] at hJs
      have HJ := Lib.hid hJs
      clear hJs hzz hs ht
      gi_wp2
      go_end0
      exact ⟨⟨_, rfl⟩, .inl ⟨_, rfl, HJ.out⟩⟩
/-- what box.pairs hands back may be ranged over -/
theorem pairs_stops (m : Nat) (hm : 1 ≤ m) (Ba Bb n₀ n c d : Nat) (A B : Option Addr) (xs ys : List Iv) (hn : n ≤ 1000) (w : World) (hBa : Blk w Ba 41 #[.slice A n c]) (hBb : Blk w Bb 41 #[.slice B n d]) (hn₀ : n₀ ≤ w.heap.size) (hs : SlI w n₀ A n xs) (ht : SlI w n₀ B n ys) :
    SeqStopsK Fence.wide m Try.prog 113 #[.pointer (some ⟨Ba, 0, none⟩), .pointer (some ⟨Bb, 0, none⟩)] encP (KpP n₀ Ba Bb) (fun zs => zs = List.zip xs ys) (fun pre => ∃ k, k ≤ n ∧ pre = (List.zip xs ys).take k) n w := fun l J Jx W hW hJ _ hY h0 => by
  exact pairs1_in m hm l Ba Bb n₀ n c d A B xs ys hn J Jx (fun pre X Y h hg => hJ pre X Y none h hg (fun r e => by cases e)) hY W (hBa.call hW) (hBb.call hW) (Nat.le_trans hn₀ hW.size) (hs.below (hW.mono hn₀)) (ht.below (hW.mono hn₀)) h0
end Go.Proofs.Ytagojbgmgkkdpaa.Wk
