/- Walks: box.Has, box.Widest, box.Split. -/
import Derived.Test.YtagojbgmgkkdpaaBoxB
import Derived.Test.YtagojbgmgkkdpaaIvC
import Derived.Test.YtagojbgmgkkdpaaArY
namespace Go.Proofs.Ytagojbgmgkkdpaa.Wk
open Go.RowKit Go.Proofs.Pl Go.Proofs.YtagojbgmgkkdpaaW.PrintLast
set_option linter.unusedSimpArgs false
set_option linter.unusedVariables false

theorem hasL_iff : ∀ (b : List Iv) (p : List Num), hasL b p = true ↔ b.length = p.length ∧ ∀ (j : Nat) (x : Iv) (n : Num), b[j]? = some x → p[j]? = some n → hasI x n = true
  | [], [] => by simp [hasL]
  | [], _ :: _ => by simp [hasL]
  | _ :: _, [] => by simp [hasL]
  | x :: b, n :: p => by
    simp only [hasL, Bool.and_eq_true, hasL_iff b p, List.length_cons]
    constructor
    · rintro ⟨h1, h2, h3⟩
      refine ⟨by omega, fun j y m hy hm => ?_⟩
      cases j with
      | zero => simp at hy hm; subst hy hm; exact h1
      | succ j => exact h3 j y m (by simpa using hy) (by simpa using hm)
    · rintro ⟨h1, h2⟩
      exact ⟨h2 0 x n rfl rfl, by omega, fun j y m hy hm => h2 (j + 1) y m (by simpa using hy) (by simpa using hm)⟩
set_option maxRecDepth 100000 in
set_option maxHeartbeats 4000000 in
theorem hasB_calls (A : Option Addr) (n c : Nat) (xs : List Iv) (B : Option Addr) (m d : Nat) (ps : List Num) (w : World) (hs : SlI w w.heap.size A n xs) (ht : SlN w w.heap.size B m ps) (hn : n ≤ 1000) (hm : m ≤ 1000) :
    Calls Try.prog 42 #[.slice A n c, .slice B m d] w fun e w' => e = .returned (.bool (hasL xs ps)) ∧ Below w.heap.size w w' := by
  have HB0 := Below.refl w.heap.size w
  by_cases hnm : n = m
  · subst hnm
    have hq : ((n : Int) != n) = false := by simp
    go_enter Try.func42, Try.ntmps42
    go_wp2
    go_loopw [5, 14] (fun _ i wr => ∃ k : Nat, k ≤ n ∧ i = .int .i64 k ∧ (∀ (j : Nat) (x : Iv) (y : Num), j < k → xs[j]? = some x → ps[j]? = some y → hasI x y = true) ∧ Below w.heap.size w wr) (fun _ i _ => n - (intOf i).toNat)
    case atStart => exact ⟨0, Nat.zero_le _, rfl, fun j x y hj => absurd hj (Nat.not_lt_zero _), Below.refl _ _⟩
    case round =>
      obtain ⟨k, hk, rfl, hall, HB⟩ := hrel
      have Hall := Lib.hid hall
      clear hall
      by_cases hlt : k < n
      · obtain ⟨b, off, x, rfl, hbB, hx, e0, e1, e2, e3, e4, e5, e6, e7, e8⟩ := (hs.below HB).at_ hlt
        obtain ⟨b', off', y, rfl, hbB', hy, g0, g1, g2, g3⟩ := (ht.below HB).at_ hlt
        have Hx := Lib.hid hx
        have Hy := Lib.hid hy
        have Hl := Lib.hid hs.1
        have Hl' := Lib.hid ht.1
        clear hx hy hs ht
        obtain ⟨x0, ⟨x1, x2, x3, x4⟩, ⟨x5, x6, x7, x8⟩⟩ := x
        obtain ⟨y0, y1, y2, y3⟩ := y
        dsimp only at e0 e1 e2 e3 e4 e5 e6 e7 e8 g0 g1 g2 g3
        have HH := Lib.hid (fun W => hasI_calls x0 x1 x2 x3 x4 x5 x6 x7 x8 y0 y1 y2 y3 W)
        have hbW : b < wr.heap.size := Nat.lt_of_lt_of_le hbB HB.size
        have hbW' : b' < wr.heap.size := Nat.lt_of_lt_of_le hbB' HB.size
        generalize hp : hasI ⟨x0, ⟨x1, x2, x3, x4⟩, ⟨x5, x6, x7, x8⟩⟩ ⟨y0, y1, y2, y3⟩ = p at HH
        have Hp := Lib.hid hp
        clear hp
        go_wp2_with (refine wpList_stG rfl 26 (.tmp 6) (.tmp 18) rfl wr.heap.size _ #[.bool x0, .int .i64 x1, .bool x2, .int .u64 x3, .int .i64 x4, .int .i64 x5, .bool x6, .int .u64 x7, .int .i64 x8] (Blk.new wr _ _) rfl rfl (by kernel_rfl) rfl (by simp [Value.oneCell']) ?_; intro W2 X2 P2)
        have HB2 := below_put P2
        have HB3 := bl_drew (bl_trans HB HB2)
        have X3 := X2.drew
        have hcn : W2.drew.cell? ⟨b', off' + k * 4, none⟩ = some (.int .i64 y0) ∧ W2.drew.cell? ⟨b', off' + k * 4 + 1, none⟩ = some (.bool y1) ∧ W2.drew.cell? ⟨b', off' + k * 4 + 2, none⟩ = some (.int .u64 y2) ∧ W2.drew.cell? ⟨b', off' + k * 4 + 3, none⟩ = some (.int .i64 y3) := ⟨(HB2.cell (p := ⟨b', _, none⟩) hbW').trans g0, (HB2.cell (p := ⟨b', _, none⟩) hbW').trans g1, (HB2.cell (p := ⟨b', _, none⟩) hbW').trans g2, (HB2.cell (p := ⟨b', _, none⟩) hbW').trans g3⟩
        have hbl : b' < W2.drew.heap.size := Nat.lt_of_lt_of_le hbB' HB3.size
        clear HB2 X2 P2 e0 e1 e2 e3 e4 e5 e6 e7 e8 g0 g1 g2 g3
        refine start_ (n := 7) (S := fun w' => w'.cell? ⟨wr.heap.size, 0, none⟩ = some (.bool x0) ∧ w'.cell? ⟨wr.heap.size, 1, none⟩ = some (.int .i64 x1) ∧ w'.cell? ⟨wr.heap.size, 2, none⟩ = some (.bool x2) ∧ w'.cell? ⟨wr.heap.size, 3, none⟩ = some (.int .u64 x3) ∧ w'.cell? ⟨wr.heap.size, 4, none⟩ = some (.int .i64 x4) ∧ w'.cell? ⟨wr.heap.size, 5, none⟩ = some (.int .i64 x5) ∧ w'.cell? ⟨wr.heap.size, 6, none⟩ = some (.bool x6) ∧ w'.cell? ⟨wr.heap.size, 7, none⟩ = some (.int .u64 x7) ∧ w'.cell? ⟨wr.heap.size, 8, none⟩ = some (.int .i64 x8) ∧ w'.cell? ⟨b', off' + k * 4, none⟩ = some (.int .i64 y0) ∧ w'.cell? ⟨b', off' + k * 4 + 1, none⟩ = some (.bool y1) ∧ w'.cell? ⟨b', off' + k * 4 + 2, none⟩ = some (.int .u64 y2) ∧ w'.cell? ⟨b', off' + k * 4 + 3, none⟩ = some (.int .i64 y3)) (ds := []) #[false, false, false, false, false, false, false] (by kernel_rfl) rfl rfl ⟨X3.cell 0, X3.cell 1, X3.cell 2, X3.cell 3, X3.cell 4, X3.cell 5, X3.cell 6, X3.cell 7, X3.cell 8, hcn⟩ (fun hHeld => ?_)
        generalize hWW : World.drew _ = W3 at X3 HB3 hHeld hcn hbl ⊢
        clear hWW
        refine take_ (i := 0) (N := some 19) (v := ?_) (a' := ?_) #[true, false, false, false, false, false, false] rfl rfl (by kernel_rfl) (fun _ _ _ h => h) (Or.inl ⟨by rfl, ?_⟩) hHeld ?_ ?_
        rotate_left
        · rintro w' ⟨s0_, s1_, s2_, s3_, s4_, s5_, s6_, s7_, s8_, s9_, s10_, s11_, s12_⟩
          go_simp
          with_reducible rfl
        rotate_left
        · simp only [Act.put, List.setIfInBounds_toArray, List.set_cons_zero, List.set_cons_succ]
          rfl
        refine pure_ (i := 1) (N := some 20) (v := ?_) (a' := ?_) #[true, true, false, false, false, false, false] rfl rfl (by kernel_rfl) (fun _ _ _ h => h) (Or.inl ⟨by rfl, ?_⟩) ?_ ?_
        rotate_left
        · intro w'
          go_simp
          with_reducible rfl
        rotate_left
        · simp only [Act.put, List.setIfInBounds_toArray, List.set_cons_zero, List.set_cons_succ]
          rfl
        refine pure_ (i := 2) (N := some 21) (v := ?_) (a' := ?_) #[true, true, true, false, false, false, false] rfl rfl (by kernel_rfl) (fun _ _ _ h => h) (Or.inl ⟨by rfl, ?_⟩) ?_ ?_
        rotate_left
        · intro w'
          go_simp
          with_reducible rfl
        rotate_left
        · simp only [Act.put, List.setIfInBounds_toArray, List.set_cons_zero, List.set_cons_succ]
          rfl
        refine pure_ (i := 3) (N := some 22) (v := ?_) (a' := ?_) #[true, true, true, true, false, false, false] rfl rfl (by kernel_rfl) (fun _ _ _ h => h) (Or.inl ⟨by rfl, ?_⟩) ?_ ?_
        rotate_left
        · intro w'
          go_simp
          with_reducible rfl
        rotate_left
        · simp only [Act.put, List.setIfInBounds_toArray, List.set_cons_zero, List.set_cons_succ]
          rfl
        refine take_ (i := 4) (N := some 23) (v := ?_) (a' := ?_) #[true, true, true, true, true, false, false] rfl rfl (by kernel_rfl) (fun _ _ _ h => h) (Or.inl ⟨by rfl, ?_⟩) hHeld ?_ ?_
        rotate_left
        · rintro w' ⟨s0_, s1_, s2_, s3_, s4_, s5_, s6_, s7_, s8_, s9_, s10_, s11_, s12_⟩
          go_simp
          with_reducible rfl
        rotate_left
        · simp only [Act.put, List.setIfInBounds_toArray, List.set_cons_zero, List.set_cons_succ]
          rfl
        refine one_ (i := 5) (N := some 24) #[true, true, true, true, true, true, false] rfl rfl (by kernel_rfl) (by decide) (fun K hK => ?_)
        refine goes_ Try.func21 (by kernel_rfl) rfl #[.agg #[.bool x0, .int .i64 x1, .bool x2, .int .u64 x3, .int .i64 x4, .int .i64 x5, .bool x6, .int .u64 x7, .int .i64 x8], .agg #[.int .i64 y0, .bool y1, .int .u64 y2, .int .i64 y3]] (by rfl) rfl rfl (by simp only [List.map_toArray, List.map_cons, List.map_nil] <;> rfl) ?_
        with_reducible refine (HH.out _).mono ?_
        rintro e w5 ⟨rfl, hb⟩
        refine ⟨_, rfl, ?_⟩
        have HB3 := bl_trans HB3 hb
        have X3 := X3.call hb
        have hcn := (show w5.cell? ⟨b', off' + k * 4, none⟩ = some (.int .i64 y0) ∧ w5.cell? ⟨b', off' + k * 4 + 1, none⟩ = some (.bool y1) ∧ w5.cell? ⟨b', off' + k * 4 + 2, none⟩ = some (.int .u64 y2) ∧ w5.cell? ⟨b', off' + k * 4 + 3, none⟩ = some (.int .i64 y3) from ⟨(hb.cell (p := ⟨b', _, none⟩) hbl).trans hcn.1, (hb.cell (p := ⟨b', _, none⟩) hbl).trans hcn.2.1, (hb.cell (p := ⟨b', _, none⟩) hbl).trans hcn.2.2.1, (hb.cell (p := ⟨b', _, none⟩) hbl).trans hcn.2.2.2⟩)
        refine hK.out _ _ ⟨X3.cell 0, X3.cell 1, X3.cell 2, X3.cell 3, X3.cell 4, X3.cell 5, X3.cell 6, X3.cell 7, X3.cell 8, hcn⟩ (fun hHeld => ?_)
        clear hK K hb
        refine norm_ (a' := ?_) ?_ ?_
        rotate_left
        · show Act.put _ (some 24) _ = _
          simp only [Act.put, List.setIfInBounds_toArray, List.set_cons_zero, List.set_cons_succ]
          rfl
        refine pure_ (i := 6) (N := some 25) (v := ?_) (a' := ?_) #[true, true, true, true, true, true, true] rfl rfl (by kernel_rfl) (fun _ _ _ h => h) (Or.inl ⟨by rfl, ?_⟩) ?_ ?_
        rotate_left
        · intro w'
          go_simp
          with_reducible rfl
        rotate_left
        · simp only [Act.put, List.setIfInBounds_toArray, List.set_cons_zero, List.set_cons_succ]
          rfl
        refine done_ (by kernel_rfl) ?_
        clear hHeld hcn X3
        cases p
        · go_wp2
          go_ret
          refine ⟨?_, HB3⟩
          have : hasL xs ps = false := by
            cases h : hasL xs ps
            · rfl
            · have := ((hasL_iff xs ps).1 h).2 k _ _ Hx.out Hy.out
              rw [Hp.out] at this
              cases this
          rw [this]
          rfl
        · go_wp2
          go_roundw
          case rel =>
            refine ⟨k + 1, by omega, by go_num, fun j x y hj hx hy => ?_, HB3⟩
            by_cases e : j = k
            · subst e
              rw [Hx.out] at hx
              rw [Hy.out] at hy
              cases hx
              cases hy
              exact Hp.out
            · exact Hall.out j x y (by omega) hx hy
          case measure => simp [intOf]; omega
      · have hkn : k = n := by omega
        subst hkn
        have Hs := Lib.hid hs.1
        have Ht := Lib.hid ht.1
        clear hs ht
        go_wp2
        go_ret
        refine ⟨?_, HB⟩
        have : hasL xs ps = true := (hasL_iff xs ps).2 ⟨by rw [Hs.out, Ht.out], fun j x y hx hy => Hall.out j x y (by have := (List.getElem?_eq_some_iff.1 hx).1; have := Hs.out; omega) hx hy⟩
        rw [this]
        rfl
  · have hq : ((n : Int) != m) = true := by simp; omega
    have : hasL xs ps = false := by
      cases h : hasL xs ps
      · rfl
      · have := hasL_len xs ps h
        rw [hs.1, ht.1] at this
        exact absurd this hnm
    rw [this]
    clear hs ht this hnm
    go_enter Try.func42, Try.ntmps42
    go_wp2
    go_ret
    exact ⟨rfl, HB0⟩
theorem ivAt_of {xs : List Iv} {k : Nat} {x : Iv} (h : xs[k]? = some x) : ivAt xs k = x := by
  unfold ivAt
  rw [List.getD_eq_getElem?_getD, h]; rfl
set_option maxRecDepth 100000 in
set_option maxHeartbeats 4000000 in
theorem widestB_calls (A : Option Addr) (n c : Nat) (xs : List Iv) (w : World) (hs : SlI w w.heap.size A n xs) (hw : ∀ x ∈ xs, WfIv x) (hn : n ≤ 1000) :
    Calls Try.prog 46 #[.slice A n c] w fun e w' => e = .returned (.int .i64 (widestB xs)) ∧ Below w.heap.size w w' := by
  have HE := Lib.hid (emptyB_calls A n c xs w hs hn)
  unfold widestB
  rw [hs.1]
  cases hp : emptyB xs
  · rw [hp] at HE
    by_cases h0 : n = 0
    · subst h0
      rw [if_pos (.inr rfl)]
      clear hs
      go_enter Try.func46, Try.ntmps46
      go_wp2_with (go_at_call 40; (refine HE.out.mono ?_); rintro e' w1 ⟨rfl, hb1⟩)
      go_ret
      exact ⟨rfl, hb1⟩
    · rw [if_neg (by simp [h0])]
      have h0' : ((n : Int) == 0) = false := by simp; omega
      clear hp
      go_enter Try.func46, Try.ntmps46
      go_wp2_with (go_at_call 40; (refine HE.out.mono ?_); rintro e' w1 ⟨rfl, hb1⟩)
      go_loopw [3, 4, 15] (fun best _ i wr => ∃ k : Nat, k ≤ n ∧ i = .int .i64 k ∧ best = .int .i64 (bestN xs k) ∧ Below w.heap.size w wr) (fun _ _ i _ => n - (intOf i).toNat)
      case atStart => exact ⟨0, Nat.zero_le _, rfl, rfl, hb1⟩
      case round =>
        obtain ⟨k, hk, rfl, rfl, HB⟩ := hrel
        by_cases hlt : k < n
        · have hq : bestN xs k < n := by
            have := bestN_lt xs k
            omega
          have hstep : bestN xs (k + 1) = if 0 < cmpN (widthI (ivAt xs k)) (widthI (ivAt xs (bestN xs k))) then k else bestN xs k := rfl
          generalize bestN xs k = q at hq hstep
          obtain ⟨b, off, x, rfl, hbB, hx, e0, e1, e2, e3, e4, e5, e6, e7, e8⟩ := (hs.below HB).at_ hlt
          obtain ⟨b', off', z, hbo, _, hz, g0, g1, g2, g3, g4, g5, g6, g7, g8⟩ := (hs.below HB).at_ hq
          cases hbo
          rw [ivAt_of hx, ivAt_of hz] at hstep
          have wx := hw x (List.mem_of_getElem? hx)
          have wz := hw z (List.mem_of_getElem? hz)
          have Hs := Lib.hid hs
          clear hx hz hs
          obtain ⟨x0, ⟨x1, x2, x3, x4⟩, ⟨x5, x6, x7, x8⟩⟩ := x
          obtain ⟨z0, ⟨z1, z2, z3, z4⟩, ⟨z5, z6, z7, z8⟩⟩ := z
          have HW1 := Lib.hid (fun W => widthI_calls x0 x1 x2 x3 x4 x5 x6 x7 x8 wx W)
          have HW2 := Lib.hid (fun W => widthI_calls z0 z1 z2 z3 z4 z5 z6 z7 z8 wz W)
          generalize widthI ⟨x0, ⟨x1, x2, x3, x4⟩, ⟨x5, x6, x7, x8⟩⟩ = f at HW1 hstep
          generalize widthI ⟨z0, ⟨z1, z2, z3, z4⟩, ⟨z5, z6, z7, z8⟩⟩ = h at HW2 hstep
          obtain ⟨f0, f1, f2, f3⟩ := f
          obtain ⟨h0, h1, h2, h3⟩ := h
          have HC := Lib.hid (fun W => cmpN_calls f0 f1 f2 f3 h0 h1 h2 h3 W)
          generalize cmpN ⟨f0, f1, f2, f3⟩ ⟨h0, h1, h2, h3⟩ = r at HC hstep
          dsimp only at e0 e1 e2 e3 e4 e5 e6 e7 e8 g0 g1 g2 g3 g4 g5 g6 g7 g8 HW1 HW2
          have Hstep := Lib.hid hstep
          clear hstep wx wz
          have hbW : b < wr.heap.size := Nat.lt_of_lt_of_le hbB HB.size
          go_wp2_with (refine wpList_stG rfl 26 (.tmp 5) (.tmp 19) rfl wr.heap.size _ #[.bool x0, .int .i64 x1, .bool x2, .int .u64 x3, .int .i64 x4, .int .i64 x5, .bool x6, .int .u64 x7, .int .i64 x8] (Blk.new wr _ _) rfl rfl (by kernel_rfl) rfl (by simp [Value.oneCell']) ?_; intro W2 X2 P2)
          have HB2 := below_put P2
          have HB3 := bl_drew (bl_trans HB HB2)
          have X3 := X2.drew
          have hcn : W2.drew.cell? ⟨b, off + q * 9, none⟩ = some (.bool z0) ∧ W2.drew.cell? ⟨b, off + q * 9 + 1, none⟩ = some (.int .i64 z1) ∧ W2.drew.cell? ⟨b, off + q * 9 + 2, none⟩ = some (.bool z2) ∧ W2.drew.cell? ⟨b, off + q * 9 + 3, none⟩ = some (.int .u64 z3) ∧ W2.drew.cell? ⟨b, off + q * 9 + 4, none⟩ = some (.int .i64 z4) ∧ W2.drew.cell? ⟨b, off + q * 9 + 5, none⟩ = some (.int .i64 z5) ∧ W2.drew.cell? ⟨b, off + q * 9 + 6, none⟩ = some (.bool z6) ∧ W2.drew.cell? ⟨b, off + q * 9 + 7, none⟩ = some (.int .u64 z7) ∧ W2.drew.cell? ⟨b, off + q * 9 + 8, none⟩ = some (.int .i64 z8) := ⟨(HB2.cell (p := ⟨b, _, none⟩) hbW).trans g0, (HB2.cell (p := ⟨b, _, none⟩) hbW).trans g1, (HB2.cell (p := ⟨b, _, none⟩) hbW).trans g2, (HB2.cell (p := ⟨b, _, none⟩) hbW).trans g3, (HB2.cell (p := ⟨b, _, none⟩) hbW).trans g4, (HB2.cell (p := ⟨b, _, none⟩) hbW).trans g5, (HB2.cell (p := ⟨b, _, none⟩) hbW).trans g6, (HB2.cell (p := ⟨b, _, none⟩) hbW).trans g7, (HB2.cell (p := ⟨b, _, none⟩) hbW).trans g8⟩
          have hbl : b < W2.drew.heap.size := Nat.lt_of_lt_of_le hbB HB3.size
          clear HB2 X2 P2 e0 e1 e2 e3 e4 e5 e6 e7 e8 g0 g1 g2 g3 g4 g5 g6 g7 g8
          refine start_ (n := 9) (S := fun w' => w'.cell? ⟨wr.heap.size, 0, none⟩ = some (.bool x0) ∧ w'.cell? ⟨wr.heap.size, 1, none⟩ = some (.int .i64 x1) ∧ w'.cell? ⟨wr.heap.size, 2, none⟩ = some (.bool x2) ∧ w'.cell? ⟨wr.heap.size, 3, none⟩ = some (.int .u64 x3) ∧ w'.cell? ⟨wr.heap.size, 4, none⟩ = some (.int .i64 x4) ∧ w'.cell? ⟨wr.heap.size, 5, none⟩ = some (.int .i64 x5) ∧ w'.cell? ⟨wr.heap.size, 6, none⟩ = some (.bool x6) ∧ w'.cell? ⟨wr.heap.size, 7, none⟩ = some (.int .u64 x7) ∧ w'.cell? ⟨wr.heap.size, 8, none⟩ = some (.int .i64 x8) ∧ w'.cell? ⟨b, off + q * 9, none⟩ = some (.bool z0) ∧ w'.cell? ⟨b, off + q * 9 + 1, none⟩ = some (.int .i64 z1) ∧ w'.cell? ⟨b, off + q * 9 + 2, none⟩ = some (.bool z2) ∧ w'.cell? ⟨b, off + q * 9 + 3, none⟩ = some (.int .u64 z3) ∧ w'.cell? ⟨b, off + q * 9 + 4, none⟩ = some (.int .i64 z4) ∧ w'.cell? ⟨b, off + q * 9 + 5, none⟩ = some (.int .i64 z5) ∧ w'.cell? ⟨b, off + q * 9 + 6, none⟩ = some (.bool z6) ∧ w'.cell? ⟨b, off + q * 9 + 7, none⟩ = some (.int .u64 z7) ∧ w'.cell? ⟨b, off + q * 9 + 8, none⟩ = some (.int .i64 z8)) (ds := []) #[false, false, false, false, false, false, false, false, false] (by kernel_rfl) rfl rfl ⟨X3.cell 0, X3.cell 1, X3.cell 2, X3.cell 3, X3.cell 4, X3.cell 5, X3.cell 6, X3.cell 7, X3.cell 8, hcn⟩ (fun hHeld => ?_)
          generalize hWW : World.drew _ = W3 at X3 HB3 hHeld hcn hbl ⊢
          clear hWW
          refine take_ (i := 0) (N := some 20) (v := ?_) (a' := ?_) #[true, false, false, false, false, false, false, false, false] rfl rfl (by kernel_rfl) (fun _ _ _ h => h) (Or.inl ⟨by rfl, ?_⟩) hHeld ?_ ?_
          rotate_left
          · rintro w' ⟨s0_, s1_, s2_, s3_, s4_, s5_, s6_, s7_, s8_, s9_, s10_, s11_, s12_, s13_, s14_, s15_, s16_, s17_⟩
            go_simp
            with_reducible rfl
          rotate_left
          · simp only [Act.put, List.setIfInBounds_toArray, List.set_cons_zero, List.set_cons_succ]
            rfl
          refine pure_ (i := 2) (N := some 22) (v := ?_) (a' := ?_) #[true, false, true, false, false, false, false, false, false] rfl rfl (by kernel_rfl) (fun _ _ _ h => h) (Or.inl ⟨by rfl, ?_⟩) ?_ ?_
          rotate_left
          · intro w'
            go_simp
            with_reducible rfl
          rotate_left
          · simp only [Act.put, List.setIfInBounds_toArray, List.set_cons_zero, List.set_cons_succ]
            rfl
          refine pure_ (i := 3) (N := some 23) (v := ?_) (a' := ?_) #[true, false, true, true, false, false, false, false, false] rfl rfl (by kernel_rfl) (fun _ _ _ h => h) (Or.inl ⟨by rfl, ?_⟩) ?_ ?_
          rotate_left
          · intro w'
            go_simp
            with_reducible rfl
          rotate_left
          · simp only [Act.put, List.setIfInBounds_toArray, List.set_cons_zero, List.set_cons_succ]
            rfl
          refine pure_ (i := 4) (N := some 24) (v := ?_) (a' := ?_) #[true, false, true, true, true, false, false, false, false] rfl rfl (by kernel_rfl) (fun _ _ _ h => h) (Or.inl ⟨by rfl, ?_⟩) ?_ ?_
          rotate_left
          · intro w'
            go_simp
            with_reducible rfl
          rotate_left
          · simp only [Act.put, List.setIfInBounds_toArray, List.set_cons_zero, List.set_cons_succ]
            rfl
          refine take_ (i := 5) (N := some 25) (v := ?_) (a' := ?_) #[true, false, true, true, true, true, false, false, false] rfl rfl (by kernel_rfl) (fun _ _ _ h => h) (Or.inl ⟨by rfl, ?_⟩) hHeld ?_ ?_
          rotate_left
          · rintro w' ⟨s0_, s1_, s2_, s3_, s4_, s5_, s6_, s7_, s8_, s9_, s10_, s11_, s12_, s13_, s14_, s15_, s16_, s17_⟩
            go_simp
            with_reducible rfl
          rotate_left
          · simp only [Act.put, List.setIfInBounds_toArray, List.set_cons_zero, List.set_cons_succ]
            rfl
          refine one_ (i := 1) (N := some 21) #[true, true, true, true, true, true, false, false, false] rfl rfl (by kernel_rfl) (by decide) (fun K hK => ?_)
          refine goes_ Try.func25 (by kernel_rfl) rfl #[.agg #[.bool x0, .int .i64 x1, .bool x2, .int .u64 x3, .int .i64 x4, .int .i64 x5, .bool x6, .int .u64 x7, .int .i64 x8]] (by rfl) rfl rfl (by simp only [List.map_toArray, List.map_cons, List.map_nil] <;> rfl) ?_
          with_reducible refine (HW1.out _).mono ?_
          rintro e w5 ⟨rfl, hb⟩
          refine ⟨_, rfl, ?_⟩
          have HB3 := bl_trans HB3 hb
          have X3 := X3.call hb
          have hcn := (show w5.cell? ⟨b, off + q * 9, none⟩ = some (.bool z0) ∧ w5.cell? ⟨b, off + q * 9 + 1, none⟩ = some (.int .i64 z1) ∧ w5.cell? ⟨b, off + q * 9 + 2, none⟩ = some (.bool z2) ∧ w5.cell? ⟨b, off + q * 9 + 3, none⟩ = some (.int .u64 z3) ∧ w5.cell? ⟨b, off + q * 9 + 4, none⟩ = some (.int .i64 z4) ∧ w5.cell? ⟨b, off + q * 9 + 5, none⟩ = some (.int .i64 z5) ∧ w5.cell? ⟨b, off + q * 9 + 6, none⟩ = some (.bool z6) ∧ w5.cell? ⟨b, off + q * 9 + 7, none⟩ = some (.int .u64 z7) ∧ w5.cell? ⟨b, off + q * 9 + 8, none⟩ = some (.int .i64 z8) from by
            obtain ⟨c0, c1, c2, c3, c4, c5, c6, c7, c8⟩ := hcn
            exact ⟨(hb.cell (p := ⟨b, _, none⟩) hbl).trans c0, (hb.cell (p := ⟨b, _, none⟩) hbl).trans c1, (hb.cell (p := ⟨b, _, none⟩) hbl).trans c2, (hb.cell (p := ⟨b, _, none⟩) hbl).trans c3, (hb.cell (p := ⟨b, _, none⟩) hbl).trans c4, (hb.cell (p := ⟨b, _, none⟩) hbl).trans c5, (hb.cell (p := ⟨b, _, none⟩) hbl).trans c6, (hb.cell (p := ⟨b, _, none⟩) hbl).trans c7, (hb.cell (p := ⟨b, _, none⟩) hbl).trans c8⟩)
          have hbl := Nat.lt_of_lt_of_le hbl hb.size
          refine hK.out _ _ ⟨X3.cell 0, X3.cell 1, X3.cell 2, X3.cell 3, X3.cell 4, X3.cell 5, X3.cell 6, X3.cell 7, X3.cell 8, hcn⟩ (fun hHeld => ?_)
          clear hK K hb
          refine norm_ (a' := ?_) ?_ ?_
          rotate_left
          · show Act.put _ (some 21) _ = _
            simp only [Act.put, List.setIfInBounds_toArray, List.set_cons_zero, List.set_cons_succ]
            rfl
          refine one_ (i := 6) (N := some 26) #[true, true, true, true, true, true, true, false, false] rfl rfl (by kernel_rfl) (by decide) (fun K hK => ?_)
          refine goes_ Try.func25 (by kernel_rfl) rfl #[.agg #[.bool z0, .int .i64 z1, .bool z2, .int .u64 z3, .int .i64 z4, .int .i64 z5, .bool z6, .int .u64 z7, .int .i64 z8]] (by rfl) rfl rfl (by simp only [List.map_toArray, List.map_cons, List.map_nil] <;> rfl) ?_
          with_reducible refine (HW2.out _).mono ?_
          rintro e w6 ⟨rfl, hb⟩
          refine ⟨_, rfl, ?_⟩
          have HB3 := bl_trans HB3 hb
          have X3 := X3.call hb
          have hcn := (show w6.cell? ⟨b, off + q * 9, none⟩ = some (.bool z0) ∧ w6.cell? ⟨b, off + q * 9 + 1, none⟩ = some (.int .i64 z1) ∧ w6.cell? ⟨b, off + q * 9 + 2, none⟩ = some (.bool z2) ∧ w6.cell? ⟨b, off + q * 9 + 3, none⟩ = some (.int .u64 z3) ∧ w6.cell? ⟨b, off + q * 9 + 4, none⟩ = some (.int .i64 z4) ∧ w6.cell? ⟨b, off + q * 9 + 5, none⟩ = some (.int .i64 z5) ∧ w6.cell? ⟨b, off + q * 9 + 6, none⟩ = some (.bool z6) ∧ w6.cell? ⟨b, off + q * 9 + 7, none⟩ = some (.int .u64 z7) ∧ w6.cell? ⟨b, off + q * 9 + 8, none⟩ = some (.int .i64 z8) from by
            obtain ⟨c0, c1, c2, c3, c4, c5, c6, c7, c8⟩ := hcn
            exact ⟨(hb.cell (p := ⟨b, _, none⟩) hbl).trans c0, (hb.cell (p := ⟨b, _, none⟩) hbl).trans c1, (hb.cell (p := ⟨b, _, none⟩) hbl).trans c2, (hb.cell (p := ⟨b, _, none⟩) hbl).trans c3, (hb.cell (p := ⟨b, _, none⟩) hbl).trans c4, (hb.cell (p := ⟨b, _, none⟩) hbl).trans c5, (hb.cell (p := ⟨b, _, none⟩) hbl).trans c6, (hb.cell (p := ⟨b, _, none⟩) hbl).trans c7, (hb.cell (p := ⟨b, _, none⟩) hbl).trans c8⟩)
          have hbl := Nat.lt_of_lt_of_le hbl hb.size
          refine hK.out _ _ ⟨X3.cell 0, X3.cell 1, X3.cell 2, X3.cell 3, X3.cell 4, X3.cell 5, X3.cell 6, X3.cell 7, X3.cell 8, hcn⟩ (fun hHeld => ?_)
          clear hK K hb
          refine norm_ (a' := ?_) ?_ ?_
          rotate_left
          · show Act.put _ (some 26) _ = _
            simp only [Act.put, List.setIfInBounds_toArray, List.set_cons_zero, List.set_cons_succ]
            rfl
          refine one_ (i := 7) (N := some 27) #[true, true, true, true, true, true, true, true, false] rfl rfl (by kernel_rfl) (by decide) (fun K hK => ?_)
          refine goes_ Try.func16 (by kernel_rfl) rfl #[.agg #[.int .i64 f0, .bool f1, .int .u64 f2, .int .i64 f3], .agg #[.int .i64 h0, .bool h1, .int .u64 h2, .int .i64 h3]] (by rfl) rfl rfl (by simp only [List.map_toArray, List.map_cons, List.map_nil] <;> rfl) ?_
          with_reducible refine (HC.out _).mono ?_
          rintro e w7 ⟨rfl, hb⟩
          refine ⟨_, rfl, ?_⟩
          have HB3 := bl_trans HB3 hb
          have X3 := X3.call hb
          have hcn := (show w7.cell? ⟨b, off + q * 9, none⟩ = some (.bool z0) ∧ w7.cell? ⟨b, off + q * 9 + 1, none⟩ = some (.int .i64 z1) ∧ w7.cell? ⟨b, off + q * 9 + 2, none⟩ = some (.bool z2) ∧ w7.cell? ⟨b, off + q * 9 + 3, none⟩ = some (.int .u64 z3) ∧ w7.cell? ⟨b, off + q * 9 + 4, none⟩ = some (.int .i64 z4) ∧ w7.cell? ⟨b, off + q * 9 + 5, none⟩ = some (.int .i64 z5) ∧ w7.cell? ⟨b, off + q * 9 + 6, none⟩ = some (.bool z6) ∧ w7.cell? ⟨b, off + q * 9 + 7, none⟩ = some (.int .u64 z7) ∧ w7.cell? ⟨b, off + q * 9 + 8, none⟩ = some (.int .i64 z8) from by
            obtain ⟨c0, c1, c2, c3, c4, c5, c6, c7, c8⟩ := hcn
            exact ⟨(hb.cell (p := ⟨b, _, none⟩) hbl).trans c0, (hb.cell (p := ⟨b, _, none⟩) hbl).trans c1, (hb.cell (p := ⟨b, _, none⟩) hbl).trans c2, (hb.cell (p := ⟨b, _, none⟩) hbl).trans c3, (hb.cell (p := ⟨b, _, none⟩) hbl).trans c4, (hb.cell (p := ⟨b, _, none⟩) hbl).trans c5, (hb.cell (p := ⟨b, _, none⟩) hbl).trans c6, (hb.cell (p := ⟨b, _, none⟩) hbl).trans c7, (hb.cell (p := ⟨b, _, none⟩) hbl).trans c8⟩)
          have hbl := Nat.lt_of_lt_of_le hbl hb.size
          refine hK.out _ _ ⟨X3.cell 0, X3.cell 1, X3.cell 2, X3.cell 3, X3.cell 4, X3.cell 5, X3.cell 6, X3.cell 7, X3.cell 8, hcn⟩ (fun hHeld => ?_)
          clear hK K hb
          refine norm_ (a' := ?_) ?_ ?_
          rotate_left
          · show Act.put _ (some 27) _ = _
            simp only [Act.put, List.setIfInBounds_toArray, List.set_cons_zero, List.set_cons_succ]
            rfl
          refine pure_ (i := 8) (N := some 28) (v := ?_) (a' := ?_) #[true, true, true, true, true, true, true, true, true] rfl rfl (by kernel_rfl) (fun _ _ _ h => h) (Or.inl ⟨by rfl, ?_⟩) ?_ ?_
          rotate_left
          · intro w'
            go_simp
            with_reducible rfl
          rotate_left
          · simp only [Act.put, List.setIfInBounds_toArray, List.set_cons_zero, List.set_cons_succ]
            rfl
          refine done_ (by kernel_rfl) ?_
          clear hHeld hcn X3
          by_cases hr : 0 < r
          · go_wp2
            go_roundw
            case rel => exact ⟨k + 1, by omega, by go_num, by rw [Hstep.out, if_pos hr], HB3⟩
            case measure => simp [intOf]; omega
          · go_wp2
            go_roundw
            case rel => exact ⟨k + 1, by omega, by go_num, by rw [Hstep.out, if_neg hr], HB3⟩
            case measure => simp [intOf]; omega
        · obtain rfl : k = n := by omega
          clear hs
          go_wp2
          go_ret
          exact ⟨rfl, HB⟩
  · rw [hp] at HE
    rw [if_pos (.inl rfl)]
    clear hs hp
    go_enter Try.func46, Try.ntmps46
    go_wp2_with (go_at_call 40; (refine HE.out.mono ?_); rintro e' w1 ⟨rfl, hb1⟩)
    go_ret
    exact ⟨rfl, hb1⟩
end Go.Proofs.Ytagojbgmgkkdpaa.Wk
