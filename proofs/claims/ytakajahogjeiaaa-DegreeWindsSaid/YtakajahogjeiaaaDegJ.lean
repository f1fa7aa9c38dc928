/- Walks: slices.Grow, slices.Concat of spots, degree.Joined. -/
import Derived.Test.YtakajahogjeiaaaDegL
import Derived.Lib.AppendZerosOnto
import Derived.Lib.SliceRun
import Derived.Lib.Walk
namespace Go.Proofs.Ytakajahogjeiaaa.Wk
open Go.RowKit Go.Proofs.YtakajahogjeiaaaW.PrintLast
set_option linter.unusedSimpArgs false
set_option linter.unusedVariables false

set_option maxRecDepth 100000 in
set_option maxHeartbeats 2000000 in
theorem grow_calls (n : Nat) (hn0 : 0 < n) (hn : n ≤ 1000) (w : World) :
    Calls Try.prog 86 #[.slice none 0 0, .int .i64 n] w fun e w' => ∃ g cap, e = .returned (.slice (some ⟨g, 0, none⟩) 0 cap) ∧ OwnP w' w.heap.size (.slice (some ⟨g, 0, none⟩) 0 cap) [] ∧ Below w.heap.size w w' := by
  obtain ⟨i0, hi, hz0, hz1, hz2⟩ := info_parts infoSpot
  have hold : (Builtin.firstCells i0.size 0 (.slice none 0 0)).run Try.prog w.drew = .ok ([] : List Value).toArray w.drew := run_firstCells_none w.drew i0.size 0 0 0
  have hrz : ∀ ty, (Builtin.append_ #[22, 3] ty #[.slice none 0 0, .int .i64 (n : Int)]).run Try.prog w =
      .ok (.slice (some ⟨w.heap.size, 0, none⟩) n (grownCap w n 0 25)) (w.drew.alloc (.cells (([] : List Value).toArray ++ Builtin.zeroCells (Value.agg #[.int .i64 0, .int .i64 0]).cells n ++ Builtin.zeroCells (Value.agg #[.int .i64 0, .int .i64 0]).cells (grownCap w n 0 25 - n)) 25)) := fun ty => by
    have h := Lib.run_append_grow_zeros w 22 3 ty 25 i0 _ .i64 .i64 Try.underlying22 Try.underlying3 hi hz0 none 0 0 [] hold n hn0 (by omega) (by omega) (by omega) (by rw [hz2]; omega)
      (by
        have h1 := growslice_fits (need := 0 + n) (old := 0) (bytes := i0.bytes) (by omega) (by rw [hz2]; omega)
        exact h1)
    simpa using h
  have hGn : n ≤ grownCap w n 0 25 := grownCap_ge w _ _ _
  have hG63 : grownCap w n 0 25 ≤ maxLen := grownCap_le_maxLen w n 0 25 (by unfold maxLen; omega)
  have hcap : grownCap w n 0 25 ≤ 9223372036854775807 := by unfold maxLen at hG63; omega
  generalize grownCap w n 0 25 = G at hrz hGn hG63 hcap
  have hsize : ∀ m, (Builtin.zeroCells #[Value.int .i64 0, .int .i64 0] m).size = m * 2 := fun m => by simp [Builtin.zeroCells]
  have hpos : ¬ (n : Int) < 0 := by omega
  have hpos2 : (0 : Int) < (n : Int) := by omega
  go_enter Try.func86, Try.ntmps86
  go_wp2_with (at_builtin; refine Lib.wpList_append_run _ rfl _ _ _ _ rfl _ _ rfl rfl _ _ (hrz _) ?_)
  all_goals go_ret
  all_goals refine ⟨w.heap.size, G, rfl, ⟨rfl, .inr ⟨w.heap.size, G, _, rfl, Nat.le_refl _, heap_alloc_new w.drew _, Nat.zero_le _, hG63, ?_, ?_⟩⟩, bl_alloc (bl_drew (Below.refl w.heap.size w)) _⟩
  · rw [Array.size_append, hsize, hsize]
    omega
  · simp [flatP]

/-- slices of spots, for slices.Concat -/
abbrev Arg := Option Addr × Nat × Nat × List Deg.S
def argLen (l : List Arg) : Nat := l.foldl (fun s a => s + a.2.1) 0
def argAll (l : List Arg) : List Deg.S := l.foldl (fun s a => s ++ a.2.2.2) []
theorem argLen_snoc (l : List Arg) (a : Arg) : argLen (l ++ [a]) = argLen l + a.2.1 := by simp [argLen]
theorem argAll_snoc (l : List Arg) (a : Arg) : argAll (l ++ [a]) = argAll l ++ a.2.2.2 := by simp [argAll]
theorem argLen_mono (l m : List Arg) : argLen l ≤ argLen (l ++ m) := by
  have h : ∀ (m : List Arg) (s : Nat), s ≤ m.foldl (fun s a => s + a.2.1) s := fun m => by
    induction m with
    | nil => exact fun s => Nat.le_refl s
    | cons a m ih => exact fun s => Nat.le_trans (Nat.le_add_right s a.2.1) (ih _)
  unfold argLen
  rw [List.foldl_append]
  exact h m _
theorem arg_take (l : List Arg) (k : Nat) (a : Arg) (h : l[k]? = some a) : l.take (k + 1) = l.take k ++ [a] := by
  rw [List.take_add_one, h]; rfl
theorem argLen_take (l : List Arg) (k : Nat) : argLen (l.take k) ≤ argLen l := by
  have := argLen_mono (l.take k) (l.drop k)
  rwa [List.take_append_drop] at this

theorem argAll_length (l : List Arg) (h : ∀ a ∈ l, a.2.2.2.length = a.2.1) : (argAll l).length = argLen l := by
  have h2 : ∀ (m : List Arg) (s : List Deg.S) (t : Nat), s.length = t → (∀ a ∈ m, a.2.2.2.length = a.2.1) → (m.foldl (fun s a => s ++ a.2.2.2) s).length = m.foldl (fun s a => s + a.2.1) t := by
    intro m
    induction m with
    | nil => exact fun s t e _ => e
    | cons a m ih =>
      intro s t e hm
      exact ih _ _ (by rw [List.length_append, e, hm a (List.mem_cons_self ..)]) (fun b hb => hm b (List.mem_cons_of_mem _ hb))
  exact h2 l [] 0 rfl h

set_option maxRecDepth 100000 in
set_option maxHeartbeats 4000000 in
theorem concat_calls (g q c : Nat) (l : List Arg) (w : World) (hg : g < w.heap.size) (hl : l.length = q) (hq : q ≤ 1000)
    (hcell : ∀ i a, l[i]? = some a → w.cell? ⟨g, 0 + i, none⟩ = some (.slice a.1 a.2.1 a.2.2.1)) (hsl : ∀ a ∈ l, SlP w w.heap.size a.1 a.2.1 a.2.2.2 ∧ 0 < a.2.1) (h0 : 0 < argLen l) (hlen : argLen l ≤ 1000) :
    Calls Try.prog 57 #[.slice (some ⟨g, 0, none⟩) q c] w fun e w' => ∃ v, e = .returned v ∧ OwnP w' w.heap.size v (argAll l) ∧ Below w.heap.size w w' := by
  go_enter Try.func57, Try.ntmps57
  go_wp2
  go_loopw [3, 5, 11] (fun s _ i wr => ∃ k : Nat, k ≤ q ∧ i = .int .i64 k ∧ s = .int .i64 (argLen (l.take k)) ∧ w = wr) (fun _ _ i _ => q - (intOf i).toNat)
  case atStart => exact ⟨0, Nat.zero_le _, rfl, rfl, rfl⟩
  case round =>
    obtain ⟨k, hk, rfl, rfl, rfl⟩ := hrel
    by_cases hlt : k < q
    · have hx : l[k]? = some l[k] := List.getElem?_eq_getElem (by omega)
      have hc := hcell k _ hx
      rw [Nat.zero_add] at hc
      have ht := arg_take l k _ hx
      have hb1 := argLen_take l (k + 1)
      rw [ht, argLen_snoc] at hb1
      have Ht := Lib.hid ht
      generalize l[k] = a at hc Ht hb1
      obtain ⟨A, n, c', xs⟩ := a
      dsimp only at hc hb1
      generalize hLk : argLen (l.take k) = Lk at hb1
      have HLk := Lib.hid hLk
      clear hx ht hLk
      have hnn : ¬ ((Lk : Int) + (n : Int)) < 0 := by omega
      go_wp2
      go_roundw
      case rel => exact ⟨k + 1, by omega, by go_num, by rw [Ht.out, argLen_snoc, HLk.out]; first | rfl | (congr 1; omega), by trivial⟩
      case measure => simp [intOf] <;> omega
    · have hkn : q = k := by omega
      subst hkn
      have et : l.take q = l := List.take_of_length_le (by omega)
      rw [et]
      have HG := Lib.hid (fun W => grow_calls (argLen l) h0 hlen W)
      have Hsl := Lib.hid hsl
      have Hlen := Lib.hid hlen
      generalize hLn : argLen l = Ln at HG h0
      clear hLn hsl et hlen
      go_wp2_with (go_at_call 86; (with_reducible refine (HG.out _).mono ?_); rintro e w1 ⟨g1, cap1, rfl, O1, hb1⟩)
      go_loopw [6, 8, 27] (fun v _ i wr => ∃ k : Nat, k ≤ q ∧ i = .int .i64 k ∧ OwnP wr w.heap.size v (argAll (l.take k)) ∧ Below w.heap.size w wr) (fun _ _ i _ => q - (intOf i).toNat)
      case atStart => exact ⟨0, Nat.zero_le _, rfl, O1, hb1⟩
      case round =>
        obtain ⟨k, hk, rfl, O, HB⟩ := hrel
        by_cases hlt : k < q
        · have hx : l[k]? = some l[k] := List.getElem?_eq_getElem (by omega)
          have hc := (HB.cell (p := ⟨g, 0 + k, none⟩) hg).trans (hcell k _ hx)
          rw [Nat.zero_add] at hc
          have ht := arg_take l k _ hx
          obtain ⟨hS, hp⟩ := Hsl.out l[k] (List.mem_of_getElem? hx)
          have hb2 := argLen_take l (k + 1)
          have hlenk := argAll_length (l.take k) (fun a ha => (Hsl.out a (List.mem_of_mem_take ha)).1.1)
          rw [ht, argLen_snoc] at hb2
          have Ht := Lib.hid ht
          generalize l[k] = a at hc Ht hS hp hb2
          obtain ⟨A, n, c', xs⟩ := a
          dsimp only at hc hS hp hb2
          obtain ⟨b, off, rfl, _, _, _, _⟩ := hS.at_ hp
          have hS2 := hS.below HB
          have hbd : (argAll (l.take k)).length + n ≤ 1000 := by rw [hlenk]; have := Hlen.out; omega
          generalize hL : argAll (l.take k) = L at O hbd
          have HL := Lib.hid hL
          clear hx ht hlenk hb2 hL
          go_wp2_with (at_builtin; refine wpList_app rfl (.tmp 31) (.tmp 32) rfl w.heap.size u6 L rfl O w.heap.size b off n c' xs rfl hS2 hbd HB.size ?_; intro v6 w4 N6 hg6 ha6)
          have HB4 := HB.grown hg6 HB.size (fun k hk => (O.lt k hk).1)
          go_roundw
          case rel => exact ⟨k + 1, by omega, by go_num, by rw [Ht.out, argAll_snoc, HL.out]; exact N6, HB4⟩
          case measure => simp [intOf] <;> omega
        · have hkn : q = k := by omega
          subst hkn
          have et : l.take q = l := List.take_of_length_le (by omega)
          rw [et] at O
          go_wp2
          go_ret
          exact ⟨_, rfl, O, HB⟩

theorem joined_eq (xs ys : List Deg.S) (h1 : xs ≠ []) (h2 : ys ≠ []) : Deg.joined xs ys = (((([] ++ xs) ++ xs.take 1) ++ ys) ++ ys.take 1) := by
  unfold Deg.joined
  rw [if_neg (by simp [h1, h2])]
  simp
theorem joined_nil (xs ys : List Deg.S) (h : xs = [] ∨ ys = []) : Deg.joined xs ys = [] := by
  unfold Deg.joined
  rw [if_pos h]

set_option maxRecDepth 100000 in
set_option maxHeartbeats 4000000 in
theorem joined_calls (A B : Option Addr) (n m c d : Nat) (xs ys : List Deg.S) (w : World) (hx : SlP w w.heap.size A n xs) (hy : SlP w w.heap.size B m ys) (hn : n ≤ 100) (hm : m ≤ 100) (hnc : n ≤ c) (hmd : m ≤ d) :
    Calls Try.prog 20 #[.slice A n c, .slice B m d] w fun e w' => ∃ A' c', e = .returned (.slice A' (Deg.joined xs ys).length c') ∧ SlP w' w'.heap.size A' (Deg.joined xs ys).length (Deg.joined xs ys) ∧ Below w.heap.size w w' := by
  by_cases h0 : n = 0 ∨ m = 0
  · have hj : Deg.joined xs ys = [] := joined_nil xs ys (h0.imp (fun h => List.eq_nil_of_length_eq_zero (by rw [hx.1, h])) (fun h => List.eq_nil_of_length_eq_zero (by rw [hy.1, h])))
    rw [hj]
    have hxl := hx
    clear hxl
    go_enter Try.func20, Try.ntmps20
    rcases h0 with h | h
    all_goals
      subst h
      go_wp2
      all_goals go_ret
      all_goals exact ⟨none, 0, rfl, SlP.nil, Below.refl _ _⟩
  · have hn0 : ¬ n = 0 := fun h => h0 (.inl h)
    have hm0 : ¬ m = 0 := fun h => h0 (.inr h)
    clear h0
    have hb0 : ((n : Int) == 0) = false := by rw [beq_eq_false_iff_ne]; omega
    have hb1 : ((m : Int) == 0) = false := by rw [beq_eq_false_iff_ne]; omega
    have h1c : (1 : Int) ≤ (c : Int) := by omega
    have h1d : (1 : Int) ≤ (d : Int) := by omega
    have hxl := hx.1
    have hyl := hy.1
    have hj := joined_eq xs ys (by rintro rfl; simp at hxl; omega) (by rintro rfl; simp at hyl; omega)
    have hjl : (Deg.joined xs ys).length ≤ 1000 := by rw [hj]; simp; omega
    have Hj := Lib.hid hj
    have Hx := Lib.hid hx
    have Hy := Lib.hid hy
    clear hj hx hy
    go_enter Try.func20, Try.ntmps20
    go_wp2_with fail
    have HB := bl_drew (Below.refl w.heap.size w)
    refine start_ (n := 9) (S := fun w' => True) (ds := []) #[false, false, false, false, false, false, false, false, false] (by kernel_rfl) rfl rfl trivial (fun hHeld => ?_)
    refine pure_ (i := 0) (N := some 13) (v := ?_) (a' := ?_) #[true, false, false, false, false, false, false, false, false] rfl rfl (by kernel_rfl) (fun _ _ _ h => h) (Or.inl ⟨by rfl, ?_⟩) ?_ ?_
    rotate_left
    · intro w'
      go_simp
      with_reducible rfl
    rotate_left
    · simp only [Act.put, List.setIfInBounds_toArray, List.set_cons_zero, List.set_cons_succ]
      rfl
    refine pure_ (i := 1) (N := some 14) (v := ?_) (a' := ?_) #[true, true, false, false, false, false, false, false, false] rfl rfl (by kernel_rfl) (fun _ _ _ h => h) (Or.inl ⟨by rfl, ?_⟩) ?_ ?_
    rotate_left
    · intro w'
      go_simp
      with_reducible rfl
    rotate_left
    · simp only [Act.put, List.setIfInBounds_toArray, List.set_cons_zero, List.set_cons_succ]
      rfl
    refine pure_ (i := 2) (N := some 15) (v := ?_) (a' := ?_) #[true, true, true, false, false, false, false, false, false] rfl rfl (by kernel_rfl) (fun _ _ _ h => h) (Or.inl ⟨by rfl, ?_⟩) ?_ ?_
    rotate_left
    · intro w'
      go_simp
      with_reducible rfl
    rotate_left
    · simp only [Act.put, List.setIfInBounds_toArray, List.set_cons_zero, List.set_cons_succ]
      rfl
    refine pure_ (i := 3) (N := some 16) (v := ?_) (a' := ?_) #[true, true, true, true, false, false, false, false, false] rfl rfl (by kernel_rfl) (fun _ _ _ h => h) (Or.inl ⟨by rfl, ?_⟩) ?_ ?_
    rotate_left
    · intro w'
      go_simp
      with_reducible rfl
    rotate_left
    · simp only [Act.put, List.setIfInBounds_toArray, List.set_cons_zero, List.set_cons_succ]
      rfl
    refine pure_ (i := 4) (N := some 17) (v := ?_) (a' := ?_) #[true, true, true, true, true, false, false, false, false] rfl rfl (by kernel_rfl) (fun _ _ _ h => h) (Or.inl ⟨by rfl, ?_⟩) ?_ ?_
    rotate_left
    · intro w'
      go_simp
      with_reducible rfl
    rotate_left
    · simp only [Act.put, List.setIfInBounds_toArray, List.set_cons_zero, List.set_cons_succ]
      rfl
    refine pure_ (i := 5) (N := some 18) (v := ?_) (a' := ?_) #[true, true, true, true, true, true, false, false, false] rfl rfl (by kernel_rfl) (fun _ _ _ h => h) (Or.inl ⟨by rfl, ?_⟩) ?_ ?_
    rotate_left
    · intro w'
      go_simp
      with_reducible rfl
    rotate_left
    · simp only [Act.put, List.setIfInBounds_toArray, List.set_cons_zero, List.set_cons_succ]
      rfl
    refine one_ (i := 6) (N := some 19) #[true, true, true, true, true, true, true, false, false] rfl rfl (by kernel_rfl) (by decide) (fun K hK => ?_)
    refine value_ (v := ?_) (w1 := ?_) (by rfl) rfl ?_ ?_
    rotate_left 2
    · go_simp
      first | rfl | (constructor <;> rfl)
    have BL := (Blk.new w 22 #[.slice A n c, .slice A 1 c, .slice B m d, .slice B 1 d]).drew
    have HB2 := bl_drew (bl_alloc (Below.refl w.heap.size w) (.cells #[.slice A n c, .slice A 1 c, .slice B m d, .slice B 1 d] 22))
    refine hK.out _ _ trivial (fun hHeld => ?_)
    clear hK K
    refine norm_ (a' := ?_) ?_ ?_
    rotate_left
    · show Act.put _ (some 19) _ = _
      simp only [Act.put, List.setIfInBounds_toArray, List.set_cons_zero, List.set_cons_succ]
      rfl
    generalize hW : (w.alloc (.cells #[.slice A n c, .slice A 1 c, .slice B m d, .slice B 1 d] 22)).drew = W at BL HB2 hHeld ⊢
    have X := Hx.out.below HB2
    have Y := Hy.out.below HB2
    have HC := concat_calls w.heap.size 4 4 [(A, n, c, xs), (A, 1, c, xs.take 1), (B, m, d, ys), (B, 1, d, ys.take 1)] W BL.lt rfl (by omega)
      (fun i a h => by
        match i, h with
        | 0, h => cases h; exact BL.cell 0
        | 1, h => cases h; exact BL.cell 1
        | 2, h => cases h; exact BL.cell 2
        | 3, h => cases h; exact BL.cell 3
        | i + 4, h => simp at h)
      (fun a h => by
        simp only [List.mem_cons, List.not_mem_nil, or_false] at h
        rcases h with rfl | rfl | rfl | rfl
        · exact ⟨X.more HB2.size, by dsimp only; omega⟩
        · exact ⟨(X.take (k := 1) (by omega)).more HB2.size, by dsimp only; omega⟩
        · exact ⟨Y.more HB2.size, by dsimp only; omega⟩
        · exact ⟨(Y.take (k := 1) (by omega)).more HB2.size, by dsimp only; omega⟩)
      (by simp [argLen]) (by simp [argLen]; omega)
    have HC2 := Lib.hid HC
    clear HC
    refine one_ (i := 7) (N := some 20) #[true, true, true, true, true, true, true, true, false] rfl rfl (by kernel_rfl) (by decide) (fun K hK => ?_)
    refine goes_ Try.func57 (by kernel_rfl) rfl #[.slice (some ⟨w.heap.size, 0, none⟩) 4 4] (by rfl) rfl rfl (by simp only [List.map_toArray, List.map_cons, List.map_nil] <;> rfl) ?_
    with_reducible refine (HC2.out).mono ?_
    rintro e w8 ⟨v, rfl, O, hb⟩
    refine ⟨_, rfl, ?_⟩
    have HB8 := bl_trans HB2 hb
    refine hK.out _ _ trivial (fun hHeld => ?_)
    clear hK K hb
    refine norm_ (a' := ?_) ?_ ?_
    rotate_left
    · show Act.put _ (some 20) _ = _
      simp only [Act.put, List.setIfInBounds_toArray, List.set_cons_zero, List.set_cons_succ]
      rfl
    refine pure_ (i := 8) (N := some 4) (v := ?_) (a' := ?_) #[true, true, true, true, true, true, true, true, true] rfl rfl (by kernel_rfl) (fun _ _ _ h => h) (Or.inl ⟨by rfl, ?_⟩) ?_ ?_
    rotate_left
    · intro w'
      go_simp
      with_reducible rfl
    rotate_left
    · simp only [Act.put, List.setIfInBounds_toArray, List.set_cons_zero, List.set_cons_succ]
      rfl
    refine done_ (by kernel_rfl) ?_
    go_wp2
    go_ret
    rw [show argAll [(A, n, c, xs), (A, 1, c, xs.take 1), (B, m, d, ys), (B, 1, d, ys.take 1)] = Deg.joined xs ys from Hj.out.symm] at O
    obtain ⟨A', c', rfl, S⟩ := OwnP.sl O
    exact ⟨A', c', rfl, S, HB8⟩
end Go.Proofs.Ytakajahogjeiaaa.Wk
