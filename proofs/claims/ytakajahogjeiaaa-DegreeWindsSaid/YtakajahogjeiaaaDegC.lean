/- Walks: the iterator of degree.lines, degree.Winding, for every slice of spots (up to 1000). -/
import Derived.Test.YtakajahogjeiaaaDegB
import Derived.Stop.RegionWithIn
namespace Go.Proofs.Ytakajahogjeiaaa.Wk
open Go.RowKit Go.Proofs.YtakajahogjeiaaaW.PrintLast
set_option linter.unusedSimpArgs false
set_option linter.unusedVariables false
attribute [local go_sem] Oper.semAt_some

abbrev encL (x : Deg.S × Deg.S) : Array Value := #[.agg #[.int .i64 x.1.1, .int .i64 x.1.2], .agg #[.int .i64 x.2.1, .int .i64 x.2.2]]

/-- what a round must keep: all below n₀, and the box of the way -/
def KpL (n₀ Bs : Nat) (W W' : World) : Prop := Below n₀ W W' ∧ W'.heap[Bs]? = W.heap[Bs]?
theorem KpL.trans {n₀ Bs : Nat} {X Y Z : World} (h : KpL n₀ Bs X Y) (k : KpL n₀ Bs Y Z) : KpL n₀ Bs X Z := ⟨h.1.trans k.1, k.2.trans h.2⟩

set_option maxRecDepth 100000 in
set_option maxHeartbeats 2000000 in
theorem lines1_in (m : Nat) (hm : 1 ≤ m) (l Bs n₀ n c : Nat) (A : Option Addr) (xs : List Deg.S) (hn : n ≤ 1000) (J Jx : List (Deg.S × Deg.S) → World → Prop)
    (hJd : ∀ pre W W', J pre W → W.grownBy W' none → J pre W')
    (hY : ∀ pre x W, J pre W → pre.length < n → YieldAt Fence.wide (m - 1) Try.prog l (encL x) W fun e W' =>
      (e = .returned (.bool true) ∧ J (pre ++ [x]) W' ∧ KpL n₀ Bs W W') ∨ (e = .returned (.bool false) ∧ Jx (pre ++ [x]) W'))
    (W : World) (hBs : Blk W Bs 22 #[.slice A n c]) (hn₀ : n₀ ≤ W.heap.size) (hs : SlP W n₀ A n xs) (h0 : J [] W) :
    CallsIn Fence.wide m Try.prog 82 #[.func (.yield l) #[] #[], .pointer (some ⟨Bs, 0, none⟩)] W fun e W' => (∃ v, e = .returned v) ∧
      ((∃ ys, ys = Deg.linesOf xs n ∧ J ys W') ∨ (∃ pre, (∃ k, k ≤ n ∧ pre = Deg.linesOf xs k) ∧ Jx pre W')) := by
  refine callsIn_of_wp Try.func82 rfl trivial ?_ rfl
  simp only [Try.ntmps82, List.size_toArray, List.length_cons, List.length_nil, Nat.reduceAdd, Nat.reduceSub, Array.replicate_succ, Array.replicate_zero, List.push_toArray, List.append_toArray, List.nil_append, List.cons_append]
  have hBc := hBs.cell 0
  simp only [List.getElem?_toArray, List.getElem?_cons_zero] at hBc
  gi_wp2
  gi_loopw [3, 4, 7] (fun _ _ i wr => ∃ k : Nat, k ≤ n ∧ i = .int .i64 k ∧ J (Deg.linesOf xs k) wr ∧ Below n₀ W wr ∧ Blk wr Bs 22 #[.slice A n c])
    (fun _ _ i _ => n - (intOf i).toNat)
  case atStart => exact ⟨0, Nat.zero_le _, rfl, h0, Below.refl _ _, hBs⟩
  case round =>
    obtain ⟨k, hk, rfl, hJs, hnx, hBw⟩ := hrel
    by_cases hlt : k < n
    · obtain ⟨b, off, rfl, hbB, hx, e0, e1⟩ := (hs.below hnx).at_ hlt
      obtain ⟨k', hk', hmod, hE⟩ : ∃ k' : Nat, (k + 1) % n = k' ∧ k' < n ∧ ((k : Int) + 1) % (n : Int) = (k' : Int) := ⟨_, rfl, Nat.mod_lt _ (by omega), by simp⟩
      obtain ⟨b', off', hbo, _, hx', e2, e3⟩ := (hs.below hnx).at_ hmod
      cases hbo
      have hline : Deg.line xs k = (((Deg.pt xs k).1, (Deg.pt xs k).2), ((Deg.pt xs k').1, (Deg.pt xs k').2)) := by rw [← hk', ← hs.1]; rfl
      have Hline := Lib.hid hline
      have hn1 : n₀ ≤ wr.heap.size := Nat.le_trans hn₀ hnx.size
      have hB2 : Below wr.heap.size wr (wr.alloc (.cells #[.int .i64 (Deg.pt xs k).1, .int .i64 (Deg.pt xs k).2] 25)) := (Below.refl _ _).alloc (Nat.le_refl _) _
      have BX := Blk.new wr 25 #[.int .i64 (Deg.pt xs k).1, .int .i64 (Deg.pt xs k).2]
      have BW := hBw.call hB2
      have hJ2 := hJd _ _ _ hJs (World.grownBy_alloc wr (.cells #[.int .i64 (Deg.pt xs k).1, .int .i64 (Deg.pt xs k).2] 25) none)
      clear hline hk' hx hx' hBs hBc hJs h0 hs
      gi_wp2
      generalize wr.alloc (.cells #[.int .i64 (Deg.pt xs k).1, .int .i64 (Deg.pt xs k).2] 25) = W2 at BX BW hB2 hJ2 ⊢
      have r0 := (hB2.cell (p := ⟨b, off + k' * 2, none⟩) (by show b < wr.heap.size; omega)).trans e2
      have r1 := (hB2.cell (p := ⟨b, off + k' * 2 + 1, none⟩) (by show b < wr.heap.size; omega)).trans e3
      have r2 := BW.cell 0
      have r3 := BX.cell 0
      have r4 := BX.cell 1
      simp only [List.getElem?_toArray, List.getElem?_cons_zero, List.getElem?_cons_succ] at r2 r3 r4
      have hJ3 := hJd _ _ _ hJ2 (show W2.grownBy W2.drew none from ⟨rfl, rfl, rfl, Nat.le_refl _, fun _ _ _ => rfl⟩)
      obtain ⟨fn, tmps, assign, body, hy, hR⟩ := hY (Deg.linesOf xs k) (((Deg.pt xs k).1, (Deg.pt xs k).2), ((Deg.pt xs k').1, (Deg.pt xs k').2)) W2.drew hJ3 (by rw [Deg.linesOf_length]; exact hlt)
      dsimp only [encL] at hy
      have hR' : RoundIn Fence.wide (m - 1) Try.prog l fn tmps assign body W2.drew fun e W' => ∃ r : Bool, e = .returned (.bool r) ∧ Hid ((r = true ∧ J (Deg.linesOf xs (k + 1)) W' ∧ Below n₀ W wr ∧ KpL n₀ Bs W2.drew W') ∨ (r = false ∧ Jx (Deg.linesOf xs (k + 1)) W')) := by
        refine hR.mono ?_
        rw [Deg.linesOf_succ, Hline.out]
        rintro e W' (⟨rfl, h1, h2⟩ | ⟨rfl, h1⟩)
        · exact ⟨true, rfl, .inl ⟨rfl, h1, hnx, h2⟩⟩
        · exact ⟨false, rfl, .inr ⟨rfl, h1⟩⟩
      have HB2 := Lib.hid (((Below.refl n₀ wr).trans (hB2.mono hn1)).drew)
      have HBW := Lib.hid BW
      clear hR hY hJd hJ2 hJ3 Hline hnx e0 e1 e2 e3 hB2 BX BW hBw
      gi_region_with (refine hR'.mono ?_; rintro e W3 ⟨r, rfl, hr⟩; clear hR')
      all_goals cases r
      all_goals gi_wp2
      all_goals rcases hr.out with ⟨h, hJ4, hB3, hB4⟩ | ⟨h, hx3⟩
      all_goals first
        | (exfalso; cases h; done)
        | (refine bodyPost_ret (results_none rfl _ _ _) rfl ?_; exact ⟨⟨_, rfl⟩, .inr ⟨_, ⟨k + 1, by omega, rfl⟩, hx3⟩⟩)
        | (go_roundw
           case rel => exact ⟨k + 1, by omega, by go_num, hJ4, hB3.trans (HB2.out.trans hB4.1), hB4.2.trans HBW.out⟩
           case measure => simp [intOf]; omega)
    · obtain rfl : k = n := by omega
      gi_wp2
      go_end0
      exact ⟨⟨_, rfl⟩, .inl ⟨_, rfl, hJs⟩⟩

/-- what degree.lines hands back may be ranged over -/
theorem lines_stops (m : Nat) (hm : 1 ≤ m) (Bs n₀ n c : Nat) (A : Option Addr) (xs : List Deg.S) (hn : n ≤ 1000) (w : World) (hBs : Blk w Bs 22 #[.slice A n c]) (hn₀ : n₀ ≤ w.heap.size) (hs : SlP w n₀ A n xs) :
    SeqStopsK Fence.wide m Try.prog 82 #[.pointer (some ⟨Bs, 0, none⟩)] encL (KpL n₀ Bs) (fun ys => ys = Deg.linesOf xs n) (fun pre => ∃ k, k ≤ n ∧ pre = Deg.linesOf xs k) n w := fun l J Jx W hW hJ _ hY h0 => by
  exact lines1_in m hm l Bs n₀ n c A xs hn J Jx (fun pre X Y h hg => hJ pre X Y none h hg (fun r e => by cases e)) hY W (hBs.call hW) (Nat.le_trans hn₀ hW.size) (hs.below (hW.mono hn₀)) h0
end Go.Proofs.Ytakajahogjeiaaa.Wk
