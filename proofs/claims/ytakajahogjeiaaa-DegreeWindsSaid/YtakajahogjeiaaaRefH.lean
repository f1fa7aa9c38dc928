/- Walks: pelorusref21.Joined, Same (of one list twice). -/
import Derived.Test.YtakajahogjeiaaaRefG
import Derived.Test.YtakajahogjeiaaaDegJ
namespace Go.Proofs.Ytakajahogjeiaaa.Wk
open Go.RowKit Go.Proofs.YtakajahogjeiaaaW.PrintLast
set_option linter.unusedSimpArgs false
set_option linter.unusedVariables false

theorem SlP.lit1r {w : World} {g B : Nat} {T : TypeId} {x y : Int} (h : Blk w g T #[.int .i64 x, .int .i64 y]) (hB : g < B) : SlP w B (some ⟨g, 0, none⟩) 1 [(x, y)] := by
  refine ⟨rfl, fun _ => ⟨g, 0, rfl, hB, fun i z hz => ?_⟩⟩
  match i, hz with
  | 0, hz =>
    simp only [List.getElem?_cons_zero, Option.some.injEq] at hz
    subst hz
    exact ⟨h.cell 0, h.cell 1⟩
  | i + 1, hz => simp at hz
theorem take_one {xs : List Deg.S} (h : 0 < xs.length) : xs.take 1 = [((Deg.pt xs 0).1, (Deg.pt xs 0).2)] := by
  cases xs with
  | nil => simp at h
  | cons a l => simp [Deg.pt]
theorem SlP.first {w : World} {B n b off : Nat} {xs : List Deg.S} (h : SlP w B (some ⟨b, off, none⟩) n xs) (hn : 0 < n) : w.cell? ⟨b, off, none⟩ = some (.int .i64 (Deg.pt xs 0).1) ∧ w.cell? ⟨b, off + 1, none⟩ = some (.int .i64 (Deg.pt xs 0).2) := by
  obtain ⟨b', off', e, _, _, h0, h1⟩ := h.at_ hn
  cases e
  simp only [Nat.zero_mul, Nat.add_zero] at h0 h1
  exact ⟨h0, h1⟩

set_option maxRecDepth 100000 in
set_option maxHeartbeats 4000000 in
theorem rjoined_calls (A B : Option Addr) (n m c d : Nat) (xs ys : List Deg.S) (w : World) (hx : SlP w w.heap.size A n xs) (hy : SlP w w.heap.size B m ys) (hn : n ≤ 100) (hm : m ≤ 100) :
    Calls Try.prog 21 #[.slice A n c, .slice B m d] w fun e w' => ∃ A' c', e = .returned (.slice A' (Deg.joined xs ys).length c') ∧ SlP w' w'.heap.size A' (Deg.joined xs ys).length (Deg.joined xs ys) ∧ Below w.heap.size w w' := by
  by_cases h0 : n = 0 ∨ m = 0
  · have hj : Deg.joined xs ys = [] := joined_nil xs ys (h0.imp (fun h => List.eq_nil_of_length_eq_zero (by rw [hx.1, h])) (fun h => List.eq_nil_of_length_eq_zero (by rw [hy.1, h])))
    rw [hj]
    go_enter Try.func21, Try.ntmps21
    rcases h0 with h | h
    all_goals
      subst h
      go_wp2
      all_goals go_ret
      all_goals exact ⟨none, 0, rfl, SlP.nil, Below.refl _ _⟩
  · have hn0 : 0 < n := by omega
    have hm0 : 0 < m := by omega
    have hb0 : ((n : Int) == 0) = false := by rw [beq_eq_false_iff_ne]; omega
    have hb1 : ((m : Int) == 0) = false := by rw [beq_eq_false_iff_ne]; omega
    have hxl := hx.1
    have hyl := hy.1
    have hj := joined_eq xs ys (by rintro rfl; simp at hxl; omega) (by rintro rfl; simp at hyl; omega)
    rw [take_one (xs := xs) (by omega), take_one (xs := ys) (by omega)] at hj
    obtain ⟨b, off, rfl, hbB, _⟩ := hx.2 hn0
    obtain ⟨p, q, rfl, hpB, _⟩ := hy.2 hm0
    have Hj := Lib.hid hj
    have Hx := Lib.hid hx
    have Hy := Lib.hid hy
    clear hj hx hy h0
    go_enter Try.func21, Try.ntmps21
    go_wp2_with (first
      | (at_builtin; refine wpList_app rfl (.const (.slice none 0 0)) (.tmp 14) rfl w.heap.size (.slice none 0 0) [] rfl (OwnP.nil _ _) w.heap.size b off n c xs rfl Hx.out (by simp; omega) (Nat.le_refl _) ?_
         intro v1 w1 O1 hg1 _
         have HB1 := (Below.refl w.heap.size w).grown hg1 (Nat.le_refl _) (fun k hk => by cases hk)
         obtain ⟨p0, p1⟩ := (Hx.out.below HB1).first hn0
         have hs1 := HB1.size)
      | (at_builtin; refine wpList_app rfl (.tmp 16) (.tmp 20) rfl w.heap.size v1 _ rfl (O1.alloc _) (w1.heap.size + 1) w1.heap.size 0 1 1 [(_, _)] rfl (SlP.lit1r (Blk.new w1 _ _) (by omega)) (by simp; omega) (bl_alloc HB1 _).size ?_
         intro v2 w2 O2 hg2 _
         have HB2 := (bl_alloc HB1 _).grown hg2 (bl_alloc HB1 _).size (fun k hk => (O1.lt k hk).1)
         have Y2 := Hy.out.below HB2)
      | (at_builtin; refine wpList_app rfl (.tmp 22) (.tmp 23) rfl w.heap.size v2 _ rfl O2 w.heap.size p q m d ys rfl Y2 (by simp; omega) HB2.size ?_
         intro v3 w3 O3 hg3 _
         have HB3 := HB2.grown hg3 HB2.size (fun k hk => (O2.lt k hk).1)
         obtain ⟨r0, r1⟩ := (Hy.out.below HB3).first hm0
         have hs3 := HB3.size)
      | (at_builtin; refine wpList_app rfl (.tmp 25) (.tmp 29) rfl w.heap.size v3 _ rfl (O3.alloc _) (w3.heap.size + 1) w3.heap.size 0 1 1 [(_, _)] rfl (SlP.lit1r (Blk.new w3 _ _) (by omega)) (by simp; omega) (bl_alloc HB3 _).size ?_
         intro v4 w4 O4 hg4 _
         have HB4 := (bl_alloc HB3 _).grown hg4 (bl_alloc HB3 _).size (fun k hk => (O3.lt k hk).1)))
    go_ret
    rw [← Hj.out] at O4
    obtain ⟨A', c', rfl, S⟩ := OwnP.sl O4
    exact ⟨A', c', rfl, S, HB4⟩

set_option maxRecDepth 100000 in
set_option maxHeartbeats 4000000 in
theorem same_calls (A B : Option Addr) (n c d : Nat) (xs : List Deg.S) (w : World) (hx : SlP w w.heap.size A n xs) (hy : SlP w w.heap.size B n xs) (hn : n ≤ 1000) :
    Calls Try.prog 19 #[.slice A n c, .slice B n d] w fun e w' => e = .returned (.bool true) ∧ Below w.heap.size w w' := by
  go_enter Try.func19, Try.ntmps19
  go_wp2
  go_loopw [5] (fun i wr => ∃ k : Nat, k ≤ n ∧ i = .int .i64 k ∧ Below w.heap.size w wr) (fun i _ => n - (intOf i).toNat)
  case atStart => exact ⟨0, Nat.zero_le _, rfl, Below.refl _ _⟩
  case round =>
    obtain ⟨k, hk, rfl, HB⟩ := hrel
    by_cases hlt : k < n
    · obtain ⟨b, off, rfl, hbB, _, e0, e1⟩ := (hx.below HB).at_ hlt
      obtain ⟨p, q, rfl, hpB, _, e2, e3⟩ := (hy.below HB).at_ hlt
      generalize (Deg.pt xs k).1 = x at e0 e2
      generalize (Deg.pt xs k).2 = y at e1 e3
      have hne := fun W => run_neSpot W x x y y
      rw [decide_eq_true rfl] at hne
      go_wp2_with fail
      have HB1 := bl_drew HB
      replace e0 : wr.drew.cell? ⟨b, off + k * 2, none⟩ = some (.int .i64 x) := e0
      replace e1 : wr.drew.cell? ⟨b, off + k * 2 + 1, none⟩ = some (.int .i64 y) := e1
      replace e2 : wr.drew.cell? ⟨p, q + k * 2, none⟩ = some (.int .i64 x) := e2
      replace e3 : wr.drew.cell? ⟨p, q + k * 2 + 1, none⟩ = some (.int .i64 y) := e3
      refine start_ (n := 9) (S := fun w' => w'.cell? ⟨b, off + k * 2, none⟩ = some (.int .i64 x) ∧ w'.cell? ⟨b, off + k * 2 + 1, none⟩ = some (.int .i64 y) ∧ w'.cell? ⟨p, q + k * 2, none⟩ = some (.int .i64 x) ∧ w'.cell? ⟨p, q + k * 2 + 1, none⟩ = some (.int .i64 y)) (ds := []) #[false, false, false, false, false, false, false, false, false] (by kernel_rfl) rfl rfl ⟨e0, e1, e2, e3⟩ (fun hHeld => ?_)
      refine pure_ (i := 0) (N := some 17) (v := ?_) (a' := ?_) #[true, false, false, false, false, false, false, false, false] rfl rfl (by kernel_rfl) (fun _ _ _ h => h) (Or.inl ⟨by rfl, ?_⟩) ?_ ?_
      rotate_left
      · intro w'
        go_simp
        with_reducible rfl
      rotate_left
      · simp only [Act.put, List.setIfInBounds_toArray, List.set_cons_zero, List.set_cons_succ]
        rfl
      refine pure_ (i := 1) (N := some 18) (v := ?_) (a' := ?_) #[true, true, false, false, false, false, false, false, false] rfl rfl (by kernel_rfl) (fun _ _ _ h => h) (Or.inl ⟨by rfl, ?_⟩) ?_ ?_
      rotate_left
      · intro w'
        go_simp
        with_reducible rfl
      rotate_left
      · simp only [Act.put, List.setIfInBounds_toArray, List.set_cons_zero, List.set_cons_succ]
        rfl
      refine pure_ (i := 2) (N := some 19) (v := ?_) (a' := ?_) #[true, true, true, false, false, false, false, false, false] rfl rfl (by kernel_rfl) (fun _ _ _ h => h) (Or.inl ⟨by rfl, ?_⟩) ?_ ?_
      rotate_left
      · intro w'
        go_simp
        with_reducible rfl
      rotate_left
      · simp only [Act.put, List.setIfInBounds_toArray, List.set_cons_zero, List.set_cons_succ]
        rfl
      refine take_ (i := 3) (N := some 20) (v := ?_) (a' := ?_) #[true, true, true, true, false, false, false, false, false] rfl rfl (by kernel_rfl) (fun _ _ _ h => h) (Or.inl ⟨by rfl, ?_⟩) hHeld ?_ ?_
      rotate_left
      · rintro w' ⟨s0_, s1_, s2_, s3_⟩
        go_simp
        with_reducible rfl
      rotate_left
      · simp only [Act.put, List.setIfInBounds_toArray, List.set_cons_zero, List.set_cons_succ]
        rfl
      refine pure_ (i := 4) (N := some 21) (v := ?_) (a' := ?_) #[true, true, true, true, true, false, false, false, false] rfl rfl (by kernel_rfl) (fun _ _ _ h => h) (Or.inl ⟨by rfl, ?_⟩) ?_ ?_
      rotate_left
      · intro w'
        go_simp
        with_reducible rfl
      rotate_left
      · simp only [Act.put, List.setIfInBounds_toArray, List.set_cons_zero, List.set_cons_succ]
        rfl
      refine pure_ (i := 5) (N := some 22) (v := ?_) (a' := ?_) #[true, true, true, true, true, true, false, false, false] rfl rfl (by kernel_rfl) (fun _ _ _ h => h) (Or.inl ⟨by rfl, ?_⟩) ?_ ?_
      rotate_left
      · intro w'
        go_simp
        with_reducible rfl
      rotate_left
      · simp only [Act.put, List.setIfInBounds_toArray, List.set_cons_zero, List.set_cons_succ]
        rfl
      refine pure_ (i := 6) (N := some 23) (v := ?_) (a' := ?_) #[true, true, true, true, true, true, true, false, false] rfl rfl (by kernel_rfl) (fun _ _ _ h => h) (Or.inl ⟨by rfl, ?_⟩) ?_ ?_
      rotate_left
      · intro w'
        go_simp
        with_reducible rfl
      rotate_left
      · simp only [Act.put, List.setIfInBounds_toArray, List.set_cons_zero, List.set_cons_succ]
        rfl
      refine take_ (i := 7) (N := some 24) (v := ?_) (a' := ?_) #[true, true, true, true, true, true, true, true, false] rfl rfl (by kernel_rfl) (fun _ _ _ h => h) (Or.inl ⟨by rfl, ?_⟩) hHeld ?_ ?_
      rotate_left
      · rintro w' ⟨s0_, s1_, s2_, s3_⟩
        go_simp
        with_reducible rfl
      rotate_left
      · simp only [Act.put, List.setIfInBounds_toArray, List.set_cons_zero, List.set_cons_succ]
        rfl
      refine pure_ (i := 8) (N := some 25) (v := ?_) (a' := ?_) #[true, true, true, true, true, true, true, true, true] rfl rfl (by kernel_rfl) (fun _ _ _ h => h) (Or.inl ⟨by rfl, ?_⟩) ?_ ?_
      rotate_left
      · intro w'
        go_simp
        with_reducible rfl
      rotate_left
      · simp only [Act.put, List.setIfInBounds_toArray, List.set_cons_zero, List.set_cons_succ]
        rfl
      refine done_ (by kernel_rfl) ?_
      go_wp2
      all_goals first
        | (go_roundw
           case rel => exact ⟨k + 1, by omega, by go_num, bl_drew HB⟩
           case measure => simp [intOf] <;> omega)
        | trace_state
    · have hkn : n = k := by omega
      subst hkn
      go_wp2
      go_ret
      exact ⟨rfl, HB⟩
end Go.Proofs.Ytakajahogjeiaaa.Wk
