/- Walks: the reference's limbs, finite, word. -/
import Derived.Test.YtagojbgmgkkdpaaD3Cm
import Derived.Test.YtagojbgmgkkdpaaMRa
namespace Go.Proofs.Ytagojbgmgkkdpaa.Wk
open Go.RowKit Go.Proofs.Pl Go.Proofs.YtagojbgmgkkdpaaW.PrintLast
set_option linter.unusedSimpArgs false
set_option linter.unusedVariables false

theorem SlU.lit2 {w : World} {g B : Nat} {T : TypeId} {x y : Int} (h : Blk w g T #[.int .u32 x, .int .u32 y]) (h0 : 0 ≤ x ∧ x < 4294967296) (h1 : 0 ≤ y ∧ y < 4294967296) (hB : g < B) : SlU w B (some ⟨g, 0, none⟩) 2 [x, y] :=
  ⟨rfl, fun d hd => by simp at hd; rcases hd with rfl | rfl; exact h0; exact h1, fun _ => ⟨g, 0, rfl, hB, fun i z hz => by
    match i, hz with
    | 0, hz => simp only [List.getElem?_cons_zero, Option.some.injEq] at hz; subst hz; exact h.cell 0
    | 1, hz => simp only [List.getElem?_cons_succ, List.getElem?_cons_zero, Option.some.injEq] at hz; subst hz; exact h.cell 1
    | i + 2, hz => simp at hz⟩⟩
set_option maxHeartbeats 2000000 in
theorem r5limbs_calls (m : Int) (h0 : 0 ≤ m) (h1 : m < 18446744073709551616) (w : World) :
    Calls Try.prog 133 #[.int .u64 m] w fun e w' => ∃ A xs, e = .returned (.slice A 2 2) ∧ SlU w' w'.heap.size A 2 xs ∧ valL xs = m.toNat ∧ Below w.heap.size w w' := by
  go_enter Try.func133, Try.ntmps133
  go_wp2
  go_ret
  refine ⟨_, _, rfl, SlU.lit2 (Blk.new w _ _) (by omega) (by omega) (by simp), ?_, bl_alloc (Below.refl _ _) _⟩
  simp only [valL]
  omega
set_option maxHeartbeats 2000000 in
theorem r5fin_calls (n : Bool) (m e : Int) (up : Bool) (w : World) :
    Calls Try.prog 135 #[.bool n, .int .u64 m, .int .i64 e, .bool up] w fun en w' => en = .returned (.agg #[.int .i64 (boundN n m e up).k, .bool (boundN n m e up).n, .int .u64 (boundN n m e up).m, .int .i64 (boundN n m e up).e]) ∧ Below w.heap.size w w' := by
  by_cases h1 : 1048576 < e
  · cases up
    · go_enter Try.func135, Try.ntmps135
      go_wp2
      refine bodyPost_ret (v := _) (by simp [results, Try.results135, go_sem]; rfl) rfl ⟨?_, ?_⟩
      · simp [boundN, h1]
      · repeat (first | exact Below.refl _ _ | refine bl_set ?_ (by simp) _ | apply bl_alloc)
    · go_enter Try.func135, Try.ntmps135
      go_wp2_with (go_at_call 106; (refine (rinfN_calls _ _).mono ?_); rintro e1 w1 ⟨rfl, hb⟩; have HB := bl_trans (bl_alloc (Below.refl w.heap.size w) _) hb; have hz := hb.size; obtain ⟨hc, hf⟩ := bcell hb; clear hb)
      refine bodyPost_ret (v := _) (by simp [results, Try.results135, go_sem, hc]; rfl) rfl ⟨?_, ?_⟩
      · simp [boundN, infN, h1]
      · repeat (first | exact HB | refine bl_set ?_ (by simp) _ | apply bl_alloc)
  · by_cases h2 : e < -1048576
    · cases up
      all_goals go_enter Try.func135, Try.ntmps135
      all_goals go_wp2
      all_goals refine bodyPost_ret (v := _) (by simp [results, Try.results135, go_sem]; rfl) rfl ⟨?_, ?_⟩
      all_goals first
        | (have h1' : ¬ 1048576 < e := by omega
           unfold boundN; rw [if_neg h1', if_pos h2]; simp; done)
        | (repeat (first | exact Below.refl _ _ | refine bl_set ?_ (by simp) _ | apply bl_alloc))
    · go_enter Try.func135, Try.ntmps135
      go_wp2
      refine bodyPost_ret (v := _) (by simp [results, Try.results135, go_sem]; rfl) rfl ⟨?_, ?_⟩
      · have h1' : ¬ 1048576 < e := by omega
        have h2' : ¬ e < -1048576 := by omega
        unfold boundN; rw [if_neg h1', if_neg h2']
      · repeat (first | exact Below.refl _ _ | refine bl_set ?_ (by simp) _ | apply bl_alloc)
theorem word_step {xs : List Int} {k : Nat} {x : Int} (h : Lim xs) (hx : xs[k]? = some x) (hl : xs.length ≤ 2) : valL (xs.drop k) = x.toNat + 4294967296 * valL (xs.drop (k + 1)) ∧ valL (xs.drop (k + 1)) < 4294967296 := by
  refine ⟨?_, ?_⟩
  · rw [List.drop_eq_getElem?_toList_append, hx]; rfl
  · have := valL_lt (h.drop (k + 1))
    have hk : k < xs.length := (List.getElem?_eq_some_iff.1 hx).1
    refine Nat.lt_of_lt_of_le this ?_
    have e : (xs.drop (k + 1)).length ≤ 1 := by rw [List.length_drop]; omega
    exact Nat.le_trans (Nat.pow_le_pow_right (by decide) e) (by decide)
set_option maxHeartbeats 2000000 in
theorem r5word_calls (A : Option Addr) (n c : Nat) (xs : List Int) (w : World) (hs : SlU w w.heap.size A n xs) (hn : n ≤ 2) (hc : n ≤ c) :
    Calls Try.prog 136 #[.slice A n c] w fun e w' => e = .returned (.int .u64 (valL xs)) ∧ w' = w := by
  go_enter Try.func136, Try.ntmps136
  go_wp2
  go_loopw [3, 4] (fun v i wr => ∃ (k : Nat), k ≤ n ∧ i = .int .i64 ((k : Int) - 1) ∧ v = .int .u64 (valL (xs.drop k)) ∧ wr = w) (fun _ i _ => (intOf i + 1).toNat)
  case atStart => exact ⟨n, Nat.le_refl _, by go_num, by rw [List.drop_eq_nil_of_le (by rw [hs.1]; exact Nat.le_refl _)]; rfl, rfl⟩
  case round =>
    obtain ⟨k, hk, rfl, rfl, rfl⟩ := hrel
    rcases Nat.eq_zero_or_pos k with h0 | h0
    · subst h0
      go_wp2
      go_ret
      exact ⟨by simp, rfl⟩
    · obtain ⟨j, rfl⟩ : ∃ j, k = j + 1 := ⟨k - 1, by omega⟩
      obtain ⟨b, off, x, rfl, hbB, hx, ⟨x0, x1⟩, e0⟩ := hs.at_ (k := j) (by omega)
      have hst := word_step hs.2.1 hx (by rw [hs.1]; exact hn)
      have ej : (((j + 1 : Nat) : Int) - 1) = j := by omega
      rw [ej]
      have hjn : j < n := by omega
      replace hst := Lib.hid hst
      replace hx := Lib.hid hx
      clear hs
      generalize valL (xs.drop (j + 1)) = V at hst ⊢
      have hV := hst.out.2
      go_wp2
      refine ⟨⟨j, by omega, by go_num, ?_, by trivial⟩, by simp [intOf]⟩
      have := hst.out.1
      rw [this]
      go_num
end Go.Proofs.Ytagojbgmgkkdpaa.Wk
