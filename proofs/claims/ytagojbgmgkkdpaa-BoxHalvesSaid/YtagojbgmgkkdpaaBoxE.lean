/- Walk: box.Split. -/
import Derived.Test.YtagojbgmgkkdpaaBoxD
namespace Go.Proofs.Ytagojbgmgkkdpaa.Wk
open Go.RowKit Go.Proofs.Pl Go.Proofs.YtagojbgmgkkdpaaW.PrintLast
set_option linter.unusedSimpArgs false
set_option linter.unusedVariables false

theorem putR_size : ∀ (vs : List Value) (o : Nat) (cs : Array Value), (putR cs o vs).size = cs.size
  | [], _, _ => rfl
  | v :: r, o, cs => by simp [putR, putR_size r]
theorem putR_get : ∀ (vs : List Value) (o : Nat) (cs : Array Value) (j : Nat), o + vs.length ≤ cs.size → (putR cs o vs)[j]? = if o ≤ j ∧ j < o + vs.length then vs[j - o]? else cs[j]?
  | [], o, cs, j, _ => by
    simp only [putR, List.length_nil, Nat.add_zero]
    rw [if_neg (by omega)]
  | v :: r, o, cs, j, h => by
    simp only [List.length_cons] at h
    rw [putR, putR_get r (o + 1) _ j (by simp; omega)]
    simp only [List.length_cons]
    by_cases h1 : o = j
    · subst h1
      rw [if_neg (by omega), if_pos (by omega), Nat.sub_self, Array.getElem?_setIfInBounds_self_of_lt (by omega)]
      rfl
    · by_cases h2 : o + 1 ≤ j ∧ j < o + 1 + r.length
      · rw [if_pos h2, if_pos (by omega)]
        obtain ⟨i, hi⟩ : ∃ i, j - o = i + 1 := ⟨j - o - 1, by omega⟩
        rw [hi, List.getElem?_cons_succ]
        congr 1; omega
      · rw [if_neg h2, if_neg (by omega), Array.getElem?_setIfInBounds_ne h1]
theorem flatI_set (xs : List Iv) (i : Nat) (s : Iv) (hi : i < xs.length) (j : Nat) : (flatI (xs.set i s))[j]? = if i * 9 ≤ j ∧ j < i * 9 + 9 then (ivCells s)[j - i * 9]? else (flatI xs)[j]? := by
  rw [flatI_get, flatI_get, List.getElem?_set]
  by_cases h : i = j / 9
  · rw [if_pos h, if_pos (by omega)]
    rw [if_pos (by omega)]
    simp only [Option.bind_some]
    congr 1; omega
  · rw [if_neg h, if_neg (by omega)]
/-- the block of a slice that the call made, which is not empty -/
theorem OwnI.blk {W : World} {base : Nat} {v : Value} {xs : List Iv} (h : OwnI W base v xs) (h0 : 0 < xs.length) : ∃ g cap cur, v = .slice (some ⟨g, 0, none⟩) xs.length cap ∧ base ≤ g ∧ Blk W g 26 cur ∧ xs.length ≤ cap ∧ cap ≤ maxLen ∧ cur.size = cap * 9 ∧ cur.toList.take (xs.length * 9) = flatI xs := by
  rcases h.2 with ⟨rfl, hn⟩ | ⟨g, cap, cur, rfl, hb, hg, h1, h2, h3, h4⟩
  · omega
  · exact ⟨g, cap, cur, rfl, hb, hg, h1, h2, h3, h4⟩
theorem OwnI.set {W1 : World} {base g cap : Nat} {xs : List Iv} {cur : Array Value} {i : Nat} {s : Iv} (hi : i < xs.length) (hb : base ≤ g) (h1 : xs.length ≤ cap) (h2 : cap ≤ maxLen) (h3 : cur.size = cap * 9) (h4 : cur.toList.take (xs.length * 9) = flatI xs)
    (hB : Blk W1 g 26 (putR cur (i * 9) (ivCells s))) : OwnI W1 base (.slice (some ⟨g, 0, none⟩) xs.length cap) (xs.set i s) := by
  refine ⟨by rw [flatI_length], .inr ⟨g, cap, _, by rw [List.length_set], hb, hB, by rw [List.length_set]; exact h1, h2, by rw [putR_size]; exact h3, ?_⟩⟩
  have hfit : i * 9 + (ivCells s).length ≤ cur.size := by rw [ivCells_length, h3]; omega
  apply List.ext_getElem?
  intro j
  rw [List.length_set, flatI_set xs i s hi j, ← h4, List.getElem?_take, List.getElem?_take, Array.getElem?_toList, Array.getElem?_toList, putR_get _ _ _ j hfit, ivCells_length]
  by_cases h : i * 9 ≤ j ∧ j < i * 9 + 9
  · rw [if_pos h, if_pos h, if_pos (by omega)]
    simp
  · rw [if_neg h, if_neg h]
    simp
theorem OwnI.put {W W1 : World} {base g : Nat} {v : Value} {xs : List Iv} (h : OwnI W base v xs) (hp : Put W W1 g) (hg : ∀ k, v.ownBlock = some k → k ≠ g) : OwnI W1 base v xs := h.same fun k hk => hp.2.2.2.2 k (hg k hk)
theorem OwnI.blkn {W : World} {base n : Nat} {v : Value} {xs : List Iv} (h : OwnI W base v xs) (hn : xs.length = n) (h0 : 0 < n) : ∃ g cap cur, v = .slice (some ⟨g, 0, none⟩) n cap ∧ base ≤ g ∧ Blk W g 26 cur ∧ n ≤ cap ∧ cap ≤ maxLen ∧ cur.size = cap * 9 ∧ cur.toList.take (n * 9) = flatI xs := by
  subst hn
  exact h.blk h0
theorem OwnI.setn {W1 : World} {base g cap n : Nat} {xs : List Iv} {cur : Array Value} {i : Nat} {s : Iv} (hn : xs.length = n) (hi : i < n) (hb : base ≤ g) (h1 : n ≤ cap) (h2 : cap ≤ maxLen) (h3 : cur.size = cap * 9) (h4 : cur.toList.take (n * 9) = flatI xs)
    (hB : Blk W1 g 26 (putR cur (i * 9) (ivCells s))) : OwnI W1 base (.slice (some ⟨g, 0, none⟩) n cap) (xs.set i s) := by
  subst hn
  exact OwnI.set hi hb h1 h2 h3 h4 hB
/-- the same, its length told apart -/
theorem OwnI.sln {w : World} {base n : Nat} {v : Value} {xs : List Iv} (h : OwnI w base v xs) (hn : xs.length = n) : ∃ A c, v = .slice A n c ∧ SlI w w.heap.size A n xs := by
  subst hn
  exact h.sl
theorem OwnI.sl' {w : World} {base n cap : Nat} {A : Option Addr} {xs : List Iv} (h : OwnI w base (.slice A n cap) xs) (hn : xs.length = n) : SlI w w.heap.size A n xs := by
  obtain ⟨A', c', e, h'⟩ := h.sln hn
  cases e
  exact h'
set_option maxRecDepth 100000 in
set_option maxHeartbeats 4000000 in
theorem splitB_calls (A : Option Addr) (n c i : Nat) (xs : List Iv) (w : World) (hs : SlI w w.heap.size A n xs) (hw : ∀ x ∈ xs, WfIv x) (hn : n ≤ 1000) (hi : i < n) :
    Calls Try.prog 47 #[.slice A n c, .int .i64 i] w fun e w' => ∃ A1 c1 A2 c2, e = .returned (.tuple #[.slice A1 n c1, .slice A2 n c2]) ∧ SlI w' w'.heap.size A1 n (halfA xs i) ∧ SlI w' w'.heap.size A2 n (halfB xs i) ∧ Below w.heap.size w w' := by
  have hl := hs.1
  obtain ⟨b, off, x, rfl, hbB, hx, e0, e1, e2, e3, e4, e5, e6, e7, e8⟩ := hs.at_ hi
  have HC := Lib.hid (fun W (h : SlI W W.heap.size (some ⟨b, off, none⟩) n xs) => clone_calls (some ⟨b, off, none⟩) n c xs W h hn)
  have HF := Lib.hid (fun A c ys W (h : SlI W W.heap.size A n ys) => fairB_calls A n c ys W h hn)
  unfold halfA halfB
  rw [ivAt_of hx]
  have wx := hw x (List.mem_of_getElem? hx)
  have HS := Lib.hid hs
  have Hl := Lib.hid hl
  clear hs hl hx hw
  obtain ⟨x0, ⟨x1, x2, x3, x4⟩, ⟨x5, x6, x7, x8⟩⟩ := x
  have HSP := Lib.hid (fun W => splitI_calls x0 x1 x2 x3 x4 x5 x6 x7 x8 wx W)
  generalize splitA ⟨x0, ⟨x1, x2, x3, x4⟩, ⟨x5, x6, x7, x8⟩⟩ = s at HSP ⊢
  generalize splitB ⟨x0, ⟨x1, x2, x3, x4⟩, ⟨x5, x6, x7, x8⟩⟩ = t at HSP ⊢
  dsimp only at HSP e0 e1 e2 e3 e4 e5 e6 e7 e8
  clear wx
  have hi0 : ¬ (i : Int) < 0 := by omega
  have hin : ¬ (n : Int) ≤ i := by omega
  go_enter Try.func47, Try.ntmps47
  go_wp2_with (first
    | (go_at_call 83; first
      | ((with_reducible refine (HC.out w HS.out).mono ?_); rintro e' w1 ⟨v1, rfl, O1, hb1⟩; have S1 := Lib.hid (HS.out.on hb1))
      | ((with_reducible refine (HC.out w1 S1.out).mono ?_); rintro e' w2 ⟨v2, rfl, O2, hb2⟩; have HB2 := bl_trans hb1 hb2; have O1' := O1.call hb2; obtain ⟨g1, cap1, cur1, rfl, q1, q2, q3, q4, q5, q6⟩ := O1'.blkn Hl.out (by omega); obtain ⟨g2, cap2, cur2, rfl, p1, p2, p3, p4, p5, p6⟩ := O2.blkn Hl.out (by omega)
         have hg1 : g1 < w1.heap.size := (by have := O1.lt g1 rfl; omega)
         have E : ∀ (o : Nat) u, w.cell? ⟨b, o, none⟩ = some u → w2.cell? ⟨b, o, none⟩ = some u := fun o u h => (HB2.cell (p := ⟨b, o, none⟩) hbB).trans h
         replace e0 := E _ _ e0
         replace e1 := E _ _ e1
         replace e2 := E _ _ e2
         replace e3 := E _ _ e3
         replace e4 := E _ _ e4
         replace e5 := E _ _ e5
         replace e6 := E _ _ e6
         replace e7 := E _ _ e7
         replace e8 := E _ _ e8
         have Q6 := Lib.hid q6
         have P6' := Lib.hid p6
         clear E O1 O1' O2 S1 q6 p6))
    | (go_at_call 20; (refine (HSP.out _).mono ?_); rintro e' w3 ⟨rfl, hb3⟩; have HB3 := bl_trans HB2 hb3; have B1 := q2.call hb3; have B2 := p2.call hb3; have hz2 := HB2.size; clear e0 e1 e2 e3 e4 e5 e6 e7 e8 hb3 q2 p2)
    | (refine wpList_stM rfl 26 (.tmp 32) (.tmp 30) rfl g1 (i * 9) 26 cur1 #[.bool s.emp, .int .i64 s.lo.k, .bool s.lo.n, .int .u64 s.lo.m, .int .i64 s.lo.e, .int .i64 s.hi.k, .bool s.hi.n, .int .u64 s.hi.m, .int .i64 s.hi.e] _ B1 rfl rfl (by kernel_rfl) (by simp; omega) (by simp [Value.oneCell']) rfl ?_; intro W4 C1 P4; have C2 := P4.blk B2 (by omega); have HB4 := P4.bel HB3 (by omega))
    | (refine wpList_stM rfl 26 (.tmp 33) (.tmp 31) rfl g2 (i * 9) 26 cur2 #[.bool t.emp, .int .i64 t.lo.k, .bool t.lo.n, .int .u64 t.lo.m, .int .i64 t.lo.e, .int .i64 t.hi.k, .bool t.hi.n, .int .u64 t.hi.m, .int .i64 t.hi.e] _ C2 rfl rfl (by kernel_rfl) (by simp; omega) (by simp [Value.oneCell']) rfl ?_; intro W5 D2 P5; have D1 := P5.blk C1 (by omega); have HB5 := P5.bel HB4 (by omega)
       have OA := Lib.hid (OwnI.setn (base := w.heap.size) Hl.out hi q1 q3 q4 q5 Q6.out D1)
       have OB := Lib.hid (OwnI.setn (base := w.heap.size) Hl.out hi (Nat.le_trans hb1.size p1) p3 p4 p5 P6'.out D2)
       clear C1 C2 D1 D2 P4 P5 B1 B2)
    | (go_at_call 38; first
      | ((with_reducible refine (HF.out _ _ (xs.set i s) _ (OA.out.sl' (by rw [List.length_set]; exact Hl.out))).mono ?_); rintro e' w6 ⟨v6, rfl, O6, hb6⟩; have HB6 := bl_trans HB5 hb6; have OC := Lib.hid (OB.out.call hb6))
      | ((with_reducible refine (HF.out _ _ (xs.set i t) _ (OC.out.sl' (by rw [List.length_set]; exact Hl.out))).mono ?_); rintro e' w7 ⟨v7, rfl, O7, hb7⟩; have HB7 := bl_trans HB6 hb7; have O8 := O6.call hb7)))
  go_ret2
  obtain ⟨A1, c1, rfl, S1⟩ := O8.sln (n := n) (by rw [fairB_len, List.length_set]; exact Hl.out)
  obtain ⟨A2, c2, rfl, S2⟩ := O7.sln (n := n) (by rw [fairB_len, List.length_set]; exact Hl.out)
  exact ⟨A1, c1, A2, c2, rfl, S1, S2, HB7⟩
end Go.Proofs.Ytagojbgmgkkdpaa.Wk
