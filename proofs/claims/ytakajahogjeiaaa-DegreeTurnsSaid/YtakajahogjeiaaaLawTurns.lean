/- Walk: peloruslaw21.DegreeTurns. -/
import Derived.Test.YtakajahogjeiaaaDegL
namespace Go.Proofs.Ytakajahogjeiaaa.Wk
open Go.RowKit Go.Proofs.YtakajahogjeiaaaW.PrintLast
set_option linter.unusedSimpArgs false
set_option linter.unusedVariables false

theorem OwnP.sl' {w : World} {base n c : Nat} {A : Option Addr} {xs : List Deg.S} (h : OwnP w base (.slice A n c) xs) : SlP w w.heap.size A n xs := by
  obtain ⟨A', c', e, s⟩ := h.sl
  cases e
  exact s
theorem rev_take {xs : List Deg.S} {n k : Nat} (hl : xs.length = n) (hk : k < n) : xs.reverse.take (k + 1) = xs.reverse.take k ++ [Deg.pt xs (n - 1 - k)] := by
  rw [List.take_add_one]
  congr 1
  rw [List.getElem?_reverse (by omega), hl]
  have : n - 1 - k < xs.length := by omega
  simp [Deg.pt, this]

set_option maxRecDepth 100000 in
set_option maxHeartbeats 4000000 in
theorem turns_calls (A : Option Addr) (n c : Nat) (xs : List Deg.S) (f : Int) (w : World) (hs : SlP w w.heap.size A n xs) (hc : n ≤ c) : Calls Try.prog 3 #[.slice A n c, .int .i64 f] w fun e w' => e = .returned (.bool true) ∧ Below w.heap.size w w' := by
  have HA := Lib.hid (fun W => awake21_calls W)
  by_cases hg : n ≤ 100 ∧ 0 ≤ f ∧ f < n
  · obtain ⟨hn, hf0, hf1⟩ := hg
    obtain ⟨m, rfl⟩ : ∃ m : Nat, f = (m : Int) := ⟨f.toNat, by omega⟩
    have hm : m < n := by omega
    have hnm : ¬ n ≤ m := by omega
    have hni : ¬ (100 : Int) < (n : Int) := by omega
    obtain ⟨i0, hi, hz0, hz1, hz2⟩ := info_parts infoSpot
    go_enter Try.func3, Try.ntmps3
    go_wp2_with (go_at_call 14; (with_reducible refine (HA.out _).mono ?_); rintro e w1 ⟨rfl, hb1⟩; clear HA)
    go_loopw [6, 7] (fun back i wr => ∃ k : Nat, k ≤ n ∧ i = .int .i64 ((n : Int) - 1 - k) ∧ OwnP wr w.heap.size back (xs.reverse.take k) ∧ Below w.heap.size w wr) (fun _ i _ => (intOf i + 1).toNat)
    case atStart => exact ⟨0, Nat.zero_le _, by simp, OwnP.nil _ _, hb1⟩
    case round =>
      obtain ⟨k, hk, rfl, O, HB⟩ := hrel
      by_cases hlt : k < n
      · obtain ⟨b, off, rfl, hbB, hx, e0, e1⟩ := (hs.below HB).at_ (show n - 1 - k < n by omega)
        have hrt := rev_take hs.1 hlt
        obtain ⟨k', hk'⟩ : ∃ k', n - 1 - k = k' := ⟨_, rfl⟩
        rw [hk'] at e0 e1 hx hrt
        have hki : (n : Int) - 1 - k = (k' : Int) := by omega
        rw [hki]
        have hk1 : k' < n := by omega
        generalize Deg.pt xs k' = p at e0 e1 hx hrt
        obtain ⟨x, y⟩ := p
        dsimp only at e0 e1
        have Hrt := Lib.hid hrt
        have hll : (xs.reverse.take k).length = k := by rw [List.length_take, List.length_reverse, hs.1]; omega
        clear hrt
        generalize hL : xs.reverse.take k = L at O hll
        have HL := Lib.hid hL
        clear hL
        go_wp2_with (at_builtin; refine wpList_append_lies _ rfl (.tmp 40) (.tmp 45) 22 rfl w.heap.size 25 i0 _ 2 16 Try.underlying22 hi hz0 hz1 hz2 rfl (by omega) u6 L.length (flatP L) rfl (O.alloc _) ⟨_, 0, none⟩ 1 1 [.int .i64 x, .int .i64 y] rfl rfl (spot_news (Blk.new wr _ _)) (by simp [Value.oneCell']) (by omega) (by simp only [maxLen]; omega) (by omega) (by have := HB.size; simp; omega) _ rfl ?_; intro g1 cap1 w4 hown1 hgrow1 hat1 hlt1)
        have HB4 := (bl_alloc HB (.cells #[.int .i64 x, .int .i64 y] 25)).grown hgrow1 (bl_alloc HB _).size (fun k hk => (O.lt k hk).1)
        go_roundw
        case rel => exact ⟨k + 1, by omega, by go_num, by rw [Hrt.out, HL.out]; have h8 := OwnP.snoc hown1; rw [hll] at h8; exact h8, HB4⟩
        case measure => simp [intOf] <;> omega
      · have hkn : k = n := by omega
        subst hkn
        have et : xs.reverse.take k = xs.reverse := List.take_of_length_le (by rw [List.length_reverse, hs.1]; exact Nat.le_refl _)
        rw [et] at O
        have hrl : xs.reverse.length = k := by rw [List.length_reverse, hs.1]
        obtain ⟨A3, c3, hu3, _⟩ := OwnP.sl O
        rw [hrl] at hu3
        subst hu3
        have hki : (k : Int) - 1 - k = -1 := by omega
        rw [hki]
        have HW := Lib.hid (fun W h => winding_calls A k c xs W h (by omega))
        go_wp2_with (go_at_call 15; (with_reducible refine (HW.out _ (hs.on HB)).mono ?_); rintro e w5 ⟨rfl, hb⟩)
        have HB5 := bl_trans HB hb
        have O5 := O.call hb
        obtain ⟨b, off, rfl, hbB, _, _, _⟩ := hs.at_ (show 0 < k by omega)
        have hs5 := hs.below HB5
        have HR := Lib.hid (fun A c W h => winding_calls A k c (xs.drop m ++ xs.take m) W h (by omega))
        rw [Deg.wind_rot, List.take_append_drop] at HR
        have HV := Lib.hid (fun A c W h => winding_calls A k c xs.reverse W h (by omega))
        have hrv := Deg.wind_rev xs
        have hbd := Deg.wind_bd xs (by have := hs.1; omega)
        rw [show Deg.wind xs.reverse = (-(Deg.wind xs).1, (Deg.wind xs).2) from Prod.ext hrv.1 hrv.2] at HV
        generalize Deg.wind xs = r at HR HV hbd ⊢
        obtain ⟨r1, r2⟩ := r
        dsimp only at HR HV hbd ⊢
        have hlen : (xs.drop m ++ xs.take m).length = k := by have := hs.1; simp; omega
        clear hrv hs HW hb HB O hb1
        have hmk : m ≤ k := by omega
        have hcm : ¬ c = m := by omega
        have hmc : m ≤ c := by omega
        have hkc : k ≤ c := by omega
        have HB := bl_drew HB5
        have O := O5.drew
        have hs6 : SlP w5.drew w.heap.size (some ⟨b, off, none⟩) k xs := hs5
        refine start_ (n := 14) (S := fun w' => True) (ds := []) #[false, false, false, false, false, false, false, false, false, false, false, false, false, false] (by kernel_rfl) rfl rfl trivial (fun hHeld => ?_)
        generalize w5.drew = W6 at HB O hs6 hHeld ⊢
        refine pure_ (i := 0) (N := some 53) (v := ?_) (a' := ?_) #[true, false, false, false, false, false, false, false, false, false, false, false, false, false] rfl rfl (by kernel_rfl) (fun _ _ _ h => h) (Or.inl ⟨by rfl, ?_⟩) ?_ ?_
        rotate_left
        · intro w'
          go_simp
          with_reducible rfl
        rotate_left
        · simp only [Act.put, List.setIfInBounds_toArray, List.set_cons_zero, List.set_cons_succ]
          rfl
        refine pure_ (i := 1) (N := some 54) (v := ?_) (a' := ?_) #[true, true, false, false, false, false, false, false, false, false, false, false, false, false] rfl rfl (by kernel_rfl) (fun _ _ _ h => h) (Or.inl ⟨by rfl, ?_⟩) ?_ ?_
        rotate_left
        · intro w'
          go_simp
          with_reducible rfl
        rotate_left
        · simp only [Act.put, List.setIfInBounds_toArray, List.set_cons_zero, List.set_cons_succ]
          rfl
        refine pure_ (i := 2) (N := some 55) (v := ?_) (a' := ?_) #[true, true, true, false, false, false, false, false, false, false, false, false, false, false] rfl rfl (by kernel_rfl) (fun _ _ _ h => h) (Or.inl ⟨by rfl, ?_⟩) ?_ ?_
        rotate_left
        · intro w'
          go_simp
          with_reducible rfl
        rotate_left
        · simp only [Act.put, List.setIfInBounds_toArray, List.set_cons_zero, List.set_cons_succ]
          rfl
        refine pure_ (i := 4) (N := some 57) (v := ?_) (a' := ?_) #[true, true, true, false, true, false, false, false, false, false, false, false, false, false] rfl rfl (by kernel_rfl) (fun _ _ _ h => h) (Or.inl ⟨by rfl, ?_⟩) ?_ ?_
        rotate_left
        · intro w'
          go_simp
          with_reducible rfl
        rotate_left
        · simp only [Act.put, List.setIfInBounds_toArray, List.set_cons_zero, List.set_cons_succ]
          rfl
        refine pure_ (i := 5) (N := some 58) (v := ?_) (a' := ?_) #[true, true, true, false, true, true, false, false, false, false, false, false, false, false] rfl rfl (by kernel_rfl) (fun _ _ _ h => h) (Or.inl ⟨by rfl, ?_⟩) ?_ ?_
        rotate_left
        · intro w'
          go_simp
          with_reducible rfl
        rotate_left
        · simp only [Act.put, List.setIfInBounds_toArray, List.set_cons_zero, List.set_cons_succ]
          rfl
        refine pure_ (i := 6) (N := some 59) (v := ?_) (a' := ?_) #[true, true, true, false, true, true, true, false, false, false, false, false, false, false] rfl rfl (by kernel_rfl) (fun _ _ _ h => h) (Or.inl ⟨by rfl, ?_⟩) ?_ ?_
        rotate_left
        · intro w'
          go_simp
          with_reducible rfl
        rotate_left
        · simp only [Act.put, List.setIfInBounds_toArray, List.set_cons_zero, List.set_cons_succ]
          rfl
        refine one_ (i := 3) (N := some 56) #[true, true, true, true, true, true, true, false, false, false, false, false, false, false] rfl rfl (by kernel_rfl) (by decide) (fun K hK => ?_)
        refine step_app (by rfl) (.const (.slice none 0 0)) (.tmp 55) (by rfl) w.heap.size (.slice none 0 0) [] (by rfl) (OwnP.nil _ _) w.heap.size b (off + m * 2) (k - m) (c - m) (xs.drop m) (by rfl) (hs6.drop hm) (by simp; omega) HB.size ?_
        intro v1 W1 O1 hgrow1 hat1
        have HB1 := HB.grown hgrow1 HB.size (fun k hk => by cases hk)
        have hs7 := hs6.grown hgrow1 HB.size (fun k hk => by cases hk)
        have O8 := O.kept hgrow1 (Classical.em _)
        have hd : (Value.slice A3 k c3).ownBlock = none ∨ (Value.slice A3 k c3).ownBlock ≠ v1.ownBlock := by
          rcases hat1 with h | h
          · rw [h]; exact Classical.em _
          · right
            intro e
            have := (O.lt _ (e.trans h)).2
            omega
        clear HB hgrow1 hat1 O
        refine hK.out _ _ trivial (fun hHeld => ?_)
        clear hK K
        refine norm_ (a' := ?_) ?_ ?_
        rotate_left
        · show Act.put _ (some 56) _ = _
          simp only [Act.put, List.setIfInBounds_toArray, List.set_cons_zero, List.set_cons_succ]
          rfl
        refine one_ (i := 7) (N := some 60) #[true, true, true, true, true, true, true, true, false, false, false, false, false, false] rfl rfl (by kernel_rfl) (by decide) (fun K hK => ?_)
        refine step_app (by rfl) (.tmp 56) (.tmp 59) (by rfl) w.heap.size v1 ([] ++ xs.drop m) (by rfl) O1 w.heap.size b off m c (xs.take m) (by rfl) (hs7.take hmk) (by have := hs7.1; simp; omega) HB1.size ?_
        intro v2 W2 O2 hgrow2 _
        have HB2 := HB1.grown hgrow2 HB1.size (fun k hk => (O1.lt k hk).1)
        have O9 := O8.kept hgrow2 hd
        rw [List.nil_append] at O2
        obtain ⟨A2, c2, hv2, S2⟩ := OwnP.sl O2
        rw [hlen] at hv2 S2
        subst hv2
        clear HB1 hgrow2 O1 O8 hd hs7 O2
        refine hK.out _ _ trivial (fun hHeld => ?_)
        clear hK K
        refine norm_ (a' := ?_) ?_ ?_
        rotate_left
        · show Act.put _ (some 60) _ = _
          simp only [Act.put, List.setIfInBounds_toArray, List.set_cons_zero, List.set_cons_succ]
          rfl
        refine one_ (i := 8) (N := some 61) #[true, true, true, true, true, true, true, true, true, false, false, false, false, false] rfl rfl (by kernel_rfl) (by decide) (fun K hK => ?_)
        refine goes_ Try.func15 (by kernel_rfl) rfl #[.slice A2 k c2] (by rfl) rfl rfl (by simp only [List.map_toArray, List.map_cons, List.map_nil] <;> rfl) ?_
        with_reducible refine (HR.out A2 c2 W2 S2).mono ?_
        rintro e w8 ⟨rfl, hb⟩
        refine ⟨_, rfl, ?_⟩
        have HB8 := bl_trans HB2 hb
        have S3 := OwnP.sl' (O9.call hb)
        refine hK.out _ _ trivial (fun hHeld => ?_)
        clear hK K hb
        refine norm_ (a' := ?_) ?_ ?_
        rotate_left
        · show Act.put _ (some 61) _ = _
          simp only [Act.put, List.setIfInBounds_toArray, List.set_cons_zero, List.set_cons_succ]
          rfl
        refine pure_ (i := 9) (N := some 52) (v := ?_) (a' := ?_) #[true, true, true, true, true, true, true, true, true, true, false, false, false, false] rfl rfl (by kernel_rfl) (fun _ _ _ h => h) (Or.inl ⟨by rfl, ?_⟩) ?_ ?_
        rotate_left
        · intro w'
          go_simp
          with_reducible rfl
        rotate_left
        · simp only [Act.put, List.setIfInBounds_toArray, List.set_cons_zero, List.set_cons_succ]
          rfl
        refine pure_ (i := 10) (N := some 62) (v := ?_) (a' := ?_) #[true, true, true, true, true, true, true, true, true, true, true, false, false, false] rfl rfl (by kernel_rfl) (fun _ _ _ h => h) (Or.inl ⟨by rfl, ?_⟩) ?_ ?_
        rotate_left
        · intro w'
          go_simp
          with_reducible rfl
        rotate_left
        · simp only [Act.put, List.setIfInBounds_toArray, List.set_cons_zero, List.set_cons_succ]
          rfl
        refine pure_ (i := 11) (N := some 63) (v := ?_) (a' := ?_) #[true, true, true, true, true, true, true, true, true, true, true, true, false, false] rfl rfl (by kernel_rfl) (fun _ _ _ h => h) (Or.inl ⟨by rfl, ?_⟩) ?_ ?_
        rotate_left
        · intro w'
          go_simp
          with_reducible rfl
        rotate_left
        · simp only [Act.put, List.setIfInBounds_toArray, List.set_cons_zero, List.set_cons_succ]
          rfl
        refine pure_ (i := 12) (N := some 10) (v := ?_) (a' := ?_) #[true, true, true, true, true, true, true, true, true, true, true, true, true, false] rfl rfl (by kernel_rfl) (fun _ _ _ h => h) (Or.inl ⟨by rfl, ?_⟩) ?_ ?_
        rotate_left
        · intro w'
          go_simp
          with_reducible rfl
        rotate_left
        · simp only [Act.put, List.setIfInBounds_toArray, List.set_cons_zero, List.set_cons_succ]
          rfl
        refine pure_ (i := 13) (N := some 11) (v := ?_) (a' := ?_) #[true, true, true, true, true, true, true, true, true, true, true, true, true, true] rfl rfl (by kernel_rfl) (fun _ _ _ h => h) (Or.inl ⟨by rfl, ?_⟩) ?_ ?_
        rotate_left
        · intro w'
          go_simp
          with_reducible rfl
        rotate_left
        · simp only [Act.put, List.setIfInBounds_toArray, List.set_cons_zero, List.set_cons_succ]
          rfl
        refine done_ (by kernel_rfl) ?_
        clear hHeld
        go_wp2_with (go_at_call 15; (with_reducible refine (HV.out _ _ _ S3).mono ?_); rintro e w9 ⟨rfl, hb⟩; have HB9 := bl_trans HB8 hb; clear hb)
        all_goals go_ret
        all_goals exact ⟨by simp, HB9⟩
  · go_enter Try.func3, Try.ntmps3
    go_wp2_with (go_at_call 14; (with_reducible refine (HA.out _).mono ?_); rintro e w1 ⟨rfl, hb1⟩; clear HA)
    all_goals first
      | (exfalso; omega)
      | (go_ret; exact ⟨by simp, hb1⟩)
end Go.Proofs.Ytakajahogjeiaaa.Wk
