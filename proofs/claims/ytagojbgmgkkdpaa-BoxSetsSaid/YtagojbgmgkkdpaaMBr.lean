import Derived.Test.YtagojbgmgkkdpaaMBb
import Derived.Test.YtagojbgmgkkdpaaMBa
import Derived.Test.YtagojbgmgkkdpaaMRb
/- Walks: the reference's Empty, Has, Within, Same of boxes. -/
namespace Go.Proofs.Ytagojbgmgkkdpaa.Wk
open Go.RowKit Go.Proofs.Pl Go.Proofs.YtagojbgmgkkdpaaW.PrintLast
set_option linter.unusedSimpArgs false
set_option linter.unusedVariables false

theorem emptyB_first (xs : List Iv) (h : ∀ (j : Nat) (x : Iv), j < xs.length → xs[j]? = some x → noneB x = false) : emptyB xs = false := by
  unfold emptyB
  rw [List.any_eq_false]
  intro x hx
  obtain ⟨j, hj⟩ := List.getElem?_of_mem hx
  rw [h j x (List.getElem?_eq_some_iff.1 hj).1 hj]
  simp
set_option maxRecDepth 100000 in
set_option maxHeartbeats 4000000 in
theorem r14empty_calls (A : Option Addr) (n c : Nat) (xs : List Iv) (w : World) (hs : SlI w w.heap.size A n xs) (hn : n ≤ 1000) :
    Calls Try.prog 41 #[.slice A n c] w fun e w' => e = .returned (.bool (emptyB xs)) ∧ Below w.heap.size w w' := by
  go_enter Try.func41, Try.ntmps41
  go_wp2
  go_loopw [3, 4] (fun i _ wr => ∃ k : Nat, k ≤ n ∧ i = .int .i64 k ∧ (∀ (j : Nat) (x : Iv), j < k → xs[j]? = some x → noneB x = false) ∧ Below w.heap.size w wr) (fun i _ _ => n - (intOf i).toNat)
  case atStart => exact ⟨0, Nat.zero_le _, rfl, fun j x hj => absurd hj (Nat.not_lt_zero _), Below.refl _ _⟩
  case round =>
    obtain ⟨k, hk, rfl, hall, HB⟩ := hrel
    have Hall := Lib.hid hall
    clear hall
    by_cases hlt : k < n
    · obtain ⟨b, off, x, rfl, hbB, hx, e0, e1, e2, e3, e4, e5, e6, e7, e8⟩ := (hs.below HB).at_ hlt
      have Hx := Lib.hid hx
      have Hs := Lib.hid hs
      clear hx hs
      have Hp := Lib.hid (noneB_fair x)
      obtain ⟨x0, ⟨x1, x2, x3, x4⟩, ⟨x5, x6, x7, x8⟩⟩ := x
      have HO := Lib.hid (fun W => r8fair_calls x0 x1 x2 x3 x4 x5 x6 x7 x8 W)
      generalize fairI ⟨x0, ⟨x1, x2, x3, x4⟩, ⟨x5, x6, x7, x8⟩⟩ = f at HO Hp
      obtain ⟨f0, ⟨f1, f2, f3, f4⟩, ⟨f5, f6, f7, f8⟩⟩ := f
      dsimp only at HO Hp
      cases f0
      · go_wp2_with fail
        refine (HO.out _).mono ?_
        rintro e w1 ⟨rfl, hb⟩
        have HB1 := bl_alloc (bl_trans HB hb) (.cells #[.bool false, .int .i64 f1, .bool f2, .int .u64 f3, .int .i64 f4, .int .i64 f5, .bool f6, .int .u64 f7, .int .i64 f8] 26)
        have BF := Blk.new w1 26 #[.bool false, .int .i64 f1, .bool f2, .int .u64 f3, .int .i64 f4, .int .i64 f5, .bool f6, .int .u64 f7, .int .i64 f8]
        have t0 := BF.cell 0
        clear hb BF
        go_wp2
        go_roundw
        case rel =>
          refine ⟨k + 1, by omega, by go_num, fun j y hj hy => ?_, HB1⟩
          by_cases e : j = k
          · subst e
            rw [Hx.out] at hy
            cases hy
            exact Hp.out
          · exact Hall.out j y (by omega) hy
        case measure => simp [intOf]; omega
      · go_wp2_with fail
        refine (HO.out _).mono ?_
        rintro e w1 ⟨rfl, hb⟩
        have HB1 := bl_alloc (bl_trans HB hb) (.cells #[.bool true, .int .i64 f1, .bool f2, .int .u64 f3, .int .i64 f4, .int .i64 f5, .bool f6, .int .u64 f7, .int .i64 f8] 26)
        have BF := Blk.new w1 26 #[.bool true, .int .i64 f1, .bool f2, .int .u64 f3, .int .i64 f4, .int .i64 f5, .bool f6, .int .u64 f7, .int .i64 f8]
        have t0 := BF.cell 0
        clear hb BF
        go_wp2
        go_ret
        have hE : emptyB xs = true := by
          unfold emptyB
          rw [List.any_eq_true]
          exact ⟨_, List.mem_of_getElem? Hx.out, Hp.out⟩
        rw [hE]
        exact ⟨rfl, HB1⟩
    · have hkn : k = n := by omega
      subst hkn
      go_wp2
      go_ret
      rw [emptyB_first xs (fun j x hj hx => Hall.out j x (by have := hs.1; omega) hx)]
      exact ⟨rfl, HB⟩

/-- the cells of an interval, of a number -/
def N9 (W : World) (b o : Nat) (x : Iv) : Prop := W.cell? ⟨b, o, none⟩ = some (.bool x.emp) ∧ W.cell? ⟨b, o + 1, none⟩ = some (.int .i64 x.lo.k) ∧ W.cell? ⟨b, o + 2, none⟩ = some (.bool x.lo.n) ∧ W.cell? ⟨b, o + 3, none⟩ = some (.int .u64 x.lo.m) ∧ W.cell? ⟨b, o + 4, none⟩ = some (.int .i64 x.lo.e) ∧ W.cell? ⟨b, o + 5, none⟩ = some (.int .i64 x.hi.k) ∧ W.cell? ⟨b, o + 6, none⟩ = some (.bool x.hi.n) ∧ W.cell? ⟨b, o + 7, none⟩ = some (.int .u64 x.hi.m) ∧ W.cell? ⟨b, o + 8, none⟩ = some (.int .i64 x.hi.e)
def N4 (W : World) (b o : Nat) (x : Num) : Prop := W.cell? ⟨b, o, none⟩ = some (.int .i64 x.k) ∧ W.cell? ⟨b, o + 1, none⟩ = some (.bool x.n) ∧ W.cell? ⟨b, o + 2, none⟩ = some (.int .u64 x.m) ∧ W.cell? ⟨b, o + 3, none⟩ = some (.int .i64 x.e)
theorem N9.call {W W' : World} {b o : Nat} {x : Iv} (h : N9 W b o x) (hb : Below W.heap.size W W') (hl : b < W.heap.size) : N9 W' b o x := by
  unfold N9 at h ⊢
  have hc : ∀ k, W'.cell? ⟨b, k, none⟩ = W.cell? ⟨b, k, none⟩ := fun k => hb.cell (p := ⟨b, k, none⟩) hl
  simp only [hc]
  exact h
theorem N4.call {W W' : World} {b o : Nat} {x : Num} (h : N4 W b o x) (hb : Below W.heap.size W W') (hl : b < W.heap.size) : N4 W' b o x := by
  unfold N4 at h ⊢
  have hc : ∀ k, W'.cell? ⟨b, k, none⟩ = W.cell? ⟨b, k, none⟩ := fun k => hb.cell (p := ⟨b, k, none⟩) hl
  simp only [hc]
  exact h
theorem N9.drew {W : World} {b o : Nat} {x : Iv} (h : N9 W b o x) : N9 W.drew b o x := h
theorem N4.drew {W : World} {b o : Nat} {x : Num} (h : N4 W b o x) : N4 W.drew b o x := h
theorem SlI.n9 {w : World} {B n : Nat} {A : Option Addr} {xs : List Iv} (h : SlI w B A n xs) {k : Nat} (hk : k < n) : ∃ b off x, A = some ⟨b, off, none⟩ ∧ b < B ∧ xs[k]? = some x ∧ N9 w b (off + k * 9) x := by
  obtain ⟨b, off, x, e, hb, hx, h9⟩ := h.at_ hk
  exact ⟨b, off, x, e, hb, hx, h9⟩
theorem SlN.n4 {w : World} {B n : Nat} {A : Option Addr} {xs : List Num} (h : SlN w B A n xs) {k : Nat} (hk : k < n) : ∃ b off x, A = some ⟨b, off, none⟩ ∧ b < B ∧ xs[k]? = some x ∧ N4 w b (off + k * 4) x := by
  obtain ⟨b, off, x, e, hb, hx, h9⟩ := h.at_ hk
  exact ⟨b, off, x, e, hb, hx, h9⟩
theorem withinL_iff : ∀ (a b : List Iv), withinL a b = true ↔ a.length = b.length ∧ ∀ (j : Nat) (x y : Iv), a[j]? = some x → b[j]? = some y → withinI x y = true
  | [], [] => by simp [withinL]
  | [], _ :: _ => by simp [withinL]
  | _ :: _, [] => by simp [withinL]
  | x :: a, y :: b => by
    simp only [withinL, Bool.and_eq_true, withinL_iff a b, List.length_cons]
    constructor
    · rintro ⟨h1, h2, h3⟩
      refine ⟨by omega, fun j u v hu hv => ?_⟩
      cases j with
      | zero => simp at hu hv; subst hu hv; exact h1
      | succ j => exact h3 j u v (by simpa using hu) (by simpa using hv)
    · rintro ⟨h1, h2⟩
      exact ⟨h2 0 x y rfl rfl, by omega, fun j u v hu hv => h2 (j + 1) u v (by simpa using hu) (by simpa using hv)⟩
set_option maxRecDepth 100000 in
set_option maxHeartbeats 4000000 in
theorem r14has_calls (A : Option Addr) (n c : Nat) (xs : List Iv) (B : Option Addr) (m d : Nat) (ps : List Num) (w : World) (hs : SlI w w.heap.size A n xs) (ht : SlN w w.heap.size B m ps) (wx : ∀ x ∈ xs, WfIv x) (wp : ∀ x ∈ ps, Wf x) (hn : n ≤ 1000) (hm : m ≤ 1000) :
    Calls Try.prog 43 #[.slice A n c, .slice B m d] w fun e w' => e = .returned (.bool (hasL xs ps)) ∧ Below w.heap.size w w' := by
  have HB0 := Below.refl w.heap.size w
  by_cases hnm : n = m
  · subst hnm
    have hq : ((n : Int) != n) = false := by simp
    go_enter Try.func43, Try.ntmps43
    go_wp2
    go_loopw [5, 6] (fun i _ wr => ∃ k : Nat, k ≤ n ∧ i = .int .i64 k ∧ (∀ (j : Nat) (x : Iv) (y : Num), j < k → xs[j]? = some x → ps[j]? = some y → hasI x y = true) ∧ Below w.heap.size w wr) (fun i _ _ => n - (intOf i).toNat)
    case atStart => exact ⟨0, Nat.zero_le _, rfl, fun j x y hj => absurd hj (Nat.not_lt_zero _), Below.refl _ _⟩
    case round =>
      obtain ⟨k, hk, rfl, hall, HB⟩ := hrel
      have Hall := Lib.hid hall
      clear hall
      by_cases hlt : k < n
      · obtain ⟨b, off, x, rfl, hbB, hx, X⟩ := (hs.below HB).n9 hlt
        obtain ⟨b', off', y, rfl, hbB', hy, Y⟩ := (ht.below HB).n4 hlt
        have HQ := Lib.hid (fun W => r8has_calls x.emp x.lo.k x.lo.n x.lo.m x.lo.e x.hi.k x.hi.n x.hi.m x.hi.e y.k y.n y.m y.e W (wx _ (List.mem_of_getElem? hx)) (wp _ (List.mem_of_getElem? hy)))
        have Hx := Lib.hid hx
        have Hy := Lib.hid hy
        clear hx hy hs ht wx wp
        obtain ⟨x0, ⟨x1, x2, x3, x4⟩, ⟨x5, x6, x7, x8⟩⟩ := x
        obtain ⟨y0, y1, y2, y3⟩ := y
        dsimp only at HQ
        have X := X.drew
        have Y := Y.drew
        have hxl : b < wr.drew.heap.size := Nat.lt_of_lt_of_le hbB HB.size
        have hyl : b' < wr.drew.heap.size := Nat.lt_of_lt_of_le hbB' HB.size
        generalize hp : hasI ⟨x0, ⟨x1, x2, x3, x4⟩, ⟨x5, x6, x7, x8⟩⟩ ⟨y0, y1, y2, y3⟩ = p at HQ
        have Hp := Lib.hid hp
        clear hp
        go_wp2_with fail
        refine start_ (n := 10) (S := fun w' => w'.cell? ⟨b, off + k * 9, none⟩ = some (.bool x0) ∧ w'.cell? ⟨b, off + k * 9 + 1, none⟩ = some (.int .i64 x1) ∧ w'.cell? ⟨b, off + k * 9 + 2, none⟩ = some (.bool x2) ∧ w'.cell? ⟨b, off + k * 9 + 3, none⟩ = some (.int .u64 x3) ∧ w'.cell? ⟨b, off + k * 9 + 4, none⟩ = some (.int .i64 x4) ∧ w'.cell? ⟨b, off + k * 9 + 5, none⟩ = some (.int .i64 x5) ∧ w'.cell? ⟨b, off + k * 9 + 6, none⟩ = some (.bool x6) ∧ w'.cell? ⟨b, off + k * 9 + 7, none⟩ = some (.int .u64 x7) ∧ w'.cell? ⟨b, off + k * 9 + 8, none⟩ = some (.int .i64 x8) ∧ w'.cell? ⟨b', off' + k * 4, none⟩ = some (.int .i64 y0) ∧ w'.cell? ⟨b', off' + k * 4 + 1, none⟩ = some (.bool y1) ∧ w'.cell? ⟨b', off' + k * 4 + 2, none⟩ = some (.int .u64 y2) ∧ w'.cell? ⟨b', off' + k * 4 + 3, none⟩ = some (.int .i64 y3)) (ds := []) #[false, false, false, false, false, false, false, false, false, false] (by kernel_rfl) rfl rfl ⟨X.1, X.2.1, X.2.2.1, X.2.2.2.1, X.2.2.2.2.1, X.2.2.2.2.2.1, X.2.2.2.2.2.2.1, X.2.2.2.2.2.2.2.1, X.2.2.2.2.2.2.2.2, Y⟩ (fun hHeld => ?_)
        refine pure_ (i := 0) (N := some 18) (v := ?_) (a' := ?_) #[true, false, false, false, false, false, false, false, false, false] rfl rfl (by kernel_rfl) (fun _ _ _ h => h) (Or.inl ⟨by rfl, ?_⟩) ?_ ?_
        rotate_left
        · intro w'
          go_simp
          with_reducible rfl
        rotate_left
        · simp only [Act.put, List.setIfInBounds_toArray, List.set_cons_zero, List.set_cons_succ]
          rfl
        refine pure_ (i := 1) (N := some 19) (v := ?_) (a' := ?_) #[true, true, false, false, false, false, false, false, false, false] rfl rfl (by kernel_rfl) (fun _ _ _ h => h) (Or.inl ⟨by rfl, ?_⟩) ?_ ?_
        rotate_left
        · intro w'
          go_simp
          with_reducible rfl
        rotate_left
        · simp only [Act.put, List.setIfInBounds_toArray, List.set_cons_zero, List.set_cons_succ]
          rfl
        refine pure_ (i := 2) (N := some 20) (v := ?_) (a' := ?_) #[true, true, true, false, false, false, false, false, false, false] rfl rfl (by kernel_rfl) (fun _ _ _ h => h) (Or.inl ⟨by rfl, ?_⟩) ?_ ?_
        rotate_left
        · intro w'
          go_simp
          with_reducible rfl
        rotate_left
        · simp only [Act.put, List.setIfInBounds_toArray, List.set_cons_zero, List.set_cons_succ]
          rfl
        refine take_ (i := 3) (N := some 21) (v := ?_) (a' := ?_) #[true, true, true, true, false, false, false, false, false, false] rfl rfl (by kernel_rfl) (fun _ _ _ h => h) (Or.inl ⟨by rfl, ?_⟩) hHeld ?_ ?_
        rotate_left
        · rintro w' ⟨s0_, s1_, s2_, s3_, s4_, s5_, s6_, s7_, s8_, s9_, s10_, s11_, s12_⟩
          go_simp
          with_reducible rfl
        rotate_left
        · simp only [Act.put, List.setIfInBounds_toArray, List.set_cons_zero, List.set_cons_succ]
          rfl
        refine pure_ (i := 4) (N := some 22) (v := ?_) (a' := ?_) #[true, true, true, true, true, false, false, false, false, false] rfl rfl (by kernel_rfl) (fun _ _ _ h => h) (Or.inl ⟨by rfl, ?_⟩) ?_ ?_
        rotate_left
        · intro w'
          go_simp
          with_reducible rfl
        rotate_left
        · simp only [Act.put, List.setIfInBounds_toArray, List.set_cons_zero, List.set_cons_succ]
          rfl
        refine pure_ (i := 5) (N := some 23) (v := ?_) (a' := ?_) #[true, true, true, true, true, true, false, false, false, false] rfl rfl (by kernel_rfl) (fun _ _ _ h => h) (Or.inl ⟨by rfl, ?_⟩) ?_ ?_
        rotate_left
        · intro w'
          go_simp
          with_reducible rfl
        rotate_left
        · simp only [Act.put, List.setIfInBounds_toArray, List.set_cons_zero, List.set_cons_succ]
          rfl
        refine pure_ (i := 6) (N := some 24) (v := ?_) (a' := ?_) #[true, true, true, true, true, true, true, false, false, false] rfl rfl (by kernel_rfl) (fun _ _ _ h => h) (Or.inl ⟨by rfl, ?_⟩) ?_ ?_
        rotate_left
        · intro w'
          go_simp
          with_reducible rfl
        rotate_left
        · simp only [Act.put, List.setIfInBounds_toArray, List.set_cons_zero, List.set_cons_succ]
          rfl
        refine take_ (i := 7) (N := some 25) (v := ?_) (a' := ?_) #[true, true, true, true, true, true, true, true, false, false] rfl rfl (by kernel_rfl) (fun _ _ _ h => h) (Or.inl ⟨by rfl, ?_⟩) hHeld ?_ ?_
        rotate_left
        · rintro w' ⟨s0_, s1_, s2_, s3_, s4_, s5_, s6_, s7_, s8_, s9_, s10_, s11_, s12_⟩
          go_simp
          with_reducible rfl
        rotate_left
        · simp only [Act.put, List.setIfInBounds_toArray, List.set_cons_zero, List.set_cons_succ]
          rfl
        refine one_ (i := 8) (N := some 26) #[true, true, true, true, true, true, true, true, true, false] rfl rfl (by kernel_rfl) (by decide) (fun K hK => ?_)
        refine goes_ Try.func86 (by kernel_rfl) rfl #[.agg #[.bool x0, .int .i64 x1, .bool x2, .int .u64 x3, .int .i64 x4, .int .i64 x5, .bool x6, .int .u64 x7, .int .i64 x8], .agg #[.int .i64 y0, .bool y1, .int .u64 y2, .int .i64 y3]] (by rfl) rfl rfl (by simp only [List.map_toArray, List.map_cons, List.map_nil] <;> rfl) ?_
        with_reducible refine (HQ.out _).mono ?_
        rintro e w1 ⟨rfl, hb⟩
        refine ⟨_, rfl, ?_⟩
        have HB1 := bl_trans (bl_drew HB) hb
        have X := X.call hb hxl
        have Y := Y.call hb hyl
        have hxl := Nat.lt_of_lt_of_le hxl hb.size
        have hyl := Nat.lt_of_lt_of_le hyl hb.size
        refine hK.out _ _ ⟨X.1, X.2.1, X.2.2.1, X.2.2.2.1, X.2.2.2.2.1, X.2.2.2.2.2.1, X.2.2.2.2.2.2.1, X.2.2.2.2.2.2.2.1, X.2.2.2.2.2.2.2.2, Y⟩ (fun hHeld => ?_)
        clear hK K hb
        refine norm_ (a' := ?_) ?_ ?_
        rotate_left
        · show Act.put _ (some 26) _ = _
          simp only [Act.put, List.setIfInBounds_toArray, List.set_cons_zero, List.set_cons_succ]
          rfl
        refine pure_ (i := 9) (N := some 6) (v := ?_) (a' := ?_) #[true, true, true, true, true, true, true, true, true, true] rfl rfl (by kernel_rfl) (fun _ _ _ h => h) (Or.inl ⟨by rfl, ?_⟩) ?_ ?_
        rotate_left
        · intro w'
          go_simp
          with_reducible rfl
        rotate_left
        · simp only [Act.put, List.setIfInBounds_toArray, List.set_cons_zero, List.set_cons_succ]
          rfl
        refine done_ (by kernel_rfl) ?_
        clear hHeld X Y
        cases p
        · go_wp2
          go_ret
          refine ⟨?_, HB1⟩
          have : hasL xs ps = false := by
            cases h : hasL xs ps
            · rfl
            · have := ((hasL_iff xs ps).1 h).2 k _ _ Hx.out Hy.out
              rw [Hp.out] at this
              cases this
          rw [this]
          rfl
        · go_wp2
          go_roundw
          case rel =>
            refine ⟨k + 1, by omega, by go_num, fun j x y hj hx hy => ?_, HB1⟩
            by_cases e : j = k
            · subst e
              rw [Hx.out] at hx
              rw [Hy.out] at hy
              cases hx
              cases hy
              exact Hp.out
            · exact Hall.out j x y (by omega) hx hy
          case measure => simp [intOf]; omega
      · have hkn : k = n := by omega
        subst hkn
        have Hs := Lib.hid hs.1
        have Ht := Lib.hid ht.1
        clear hs ht
        go_wp2
        go_ret
        refine ⟨?_, HB⟩
        have : hasL xs ps = true := (hasL_iff xs ps).2 ⟨by rw [Hs.out, Ht.out], fun j x y hx hy => Hall.out j x y (by have := (List.getElem?_eq_some_iff.1 hx).1; have := Hs.out; omega) hx hy⟩
        rw [this]
        rfl
  · have hq : ((n : Int) != m) = true := by simp; omega
    have : hasL xs ps = false := by
      cases h : hasL xs ps
      · rfl
      · have := hasL_len xs ps h
        rw [hs.1, ht.1] at this
        exact absurd this hnm
    rw [this]
    clear hs ht this hnm
    go_enter Try.func43, Try.ntmps43
    go_wp2
    go_ret
    exact ⟨rfl, HB0⟩
set_option maxRecDepth 100000 in
set_option maxHeartbeats 4000000 in
theorem r14within_calls (A : Option Addr) (n c : Nat) (xs : List Iv) (B : Option Addr) (m d : Nat) (ys : List Iv) (w : World) (hs : SlI w w.heap.size A n xs) (ht : SlI w w.heap.size B m ys) (hn : n ≤ 1000) :
    Calls Try.prog 45 #[.slice A n c, .slice B m d] w fun e w' => e = .returned (.bool (withinB xs ys)) ∧ Below w.heap.size w w' := by
  have HB0 := Below.refl w.heap.size w
  have HE := Lib.hid (r14empty_calls A n c xs w hs hn)
  unfold withinB
  rw [hs.1, ht.1]
  by_cases hnm : n = m
  · subst hnm
    have hq : ((n : Int) != n) = false := by simp
    rw [decide_eq_true rfl, Bool.true_and]
    generalize emptyB xs = p at HE ⊢
    cases p
    · rw [Bool.false_or]
      go_enter Try.func45, Try.ntmps45
      go_wp2_with (go_at_call 41; (refine HE.out.mono ?_); rintro e w0 ⟨rfl, HB0⟩)
      go_loopw [6, 7] (fun i _ wr => ∃ k : Nat, k ≤ n ∧ i = .int .i64 k ∧ (∀ (j : Nat) (x y : Iv), j < k → xs[j]? = some x → ys[j]? = some y → withinI x y = true) ∧ Below w.heap.size w wr) (fun i _ _ => n - (intOf i).toNat)
      case atStart => exact ⟨0, Nat.zero_le _, rfl, fun j x y hj => absurd hj (Nat.not_lt_zero _), HB0⟩
      case round =>
        obtain ⟨k, hk, rfl, hall, HB⟩ := hrel
        have Hall := Lib.hid hall
        clear hall HE
        by_cases hlt : k < n
        · obtain ⟨b, off, x, rfl, hbB, hx, X⟩ := (hs.below HB).n9 hlt
          obtain ⟨b', off', y, rfl, hbB', hy, Y⟩ := (ht.below HB).n9 hlt
          have HQ := Lib.hid (fun W => r8within_calls x.emp x.lo.k x.lo.n x.lo.m x.lo.e x.hi.k x.hi.n x.hi.m x.hi.e y.emp y.lo.k y.lo.n y.lo.m y.lo.e y.hi.k y.hi.n y.hi.m y.hi.e W)
          have Hx := Lib.hid hx
          have Hy := Lib.hid hy
          clear hx hy hs ht
          obtain ⟨x0, ⟨x1, x2, x3, x4⟩, ⟨x5, x6, x7, x8⟩⟩ := x
          obtain ⟨y0, ⟨y1, y2, y3, y4⟩, ⟨y5, y6, y7, y8⟩⟩ := y
          dsimp only at HQ
          have X := X.drew
          have Y := Y.drew
          have hxl : b < wr.drew.heap.size := Nat.lt_of_lt_of_le hbB HB.size
          have hyl : b' < wr.drew.heap.size := Nat.lt_of_lt_of_le hbB' HB.size
          generalize hp : withinI ⟨x0, ⟨x1, x2, x3, x4⟩, ⟨x5, x6, x7, x8⟩⟩ ⟨y0, ⟨y1, y2, y3, y4⟩, ⟨y5, y6, y7, y8⟩⟩ = p at HQ
          have Hp := Lib.hid hp
          clear hp
          go_wp2_with fail
          refine start_ (n := 10) (S := fun w' => w'.cell? ⟨b, off + k * 9, none⟩ = some (.bool x0) ∧ w'.cell? ⟨b, off + k * 9 + 1, none⟩ = some (.int .i64 x1) ∧ w'.cell? ⟨b, off + k * 9 + 2, none⟩ = some (.bool x2) ∧ w'.cell? ⟨b, off + k * 9 + 3, none⟩ = some (.int .u64 x3) ∧ w'.cell? ⟨b, off + k * 9 + 4, none⟩ = some (.int .i64 x4) ∧ w'.cell? ⟨b, off + k * 9 + 5, none⟩ = some (.int .i64 x5) ∧ w'.cell? ⟨b, off + k * 9 + 6, none⟩ = some (.bool x6) ∧ w'.cell? ⟨b, off + k * 9 + 7, none⟩ = some (.int .u64 x7) ∧ w'.cell? ⟨b, off + k * 9 + 8, none⟩ = some (.int .i64 x8) ∧ w'.cell? ⟨b', off' + k * 9, none⟩ = some (.bool y0) ∧ w'.cell? ⟨b', off' + k * 9 + 1, none⟩ = some (.int .i64 y1) ∧ w'.cell? ⟨b', off' + k * 9 + 2, none⟩ = some (.bool y2) ∧ w'.cell? ⟨b', off' + k * 9 + 3, none⟩ = some (.int .u64 y3) ∧ w'.cell? ⟨b', off' + k * 9 + 4, none⟩ = some (.int .i64 y4) ∧ w'.cell? ⟨b', off' + k * 9 + 5, none⟩ = some (.int .i64 y5) ∧ w'.cell? ⟨b', off' + k * 9 + 6, none⟩ = some (.bool y6) ∧ w'.cell? ⟨b', off' + k * 9 + 7, none⟩ = some (.int .u64 y7) ∧ w'.cell? ⟨b', off' + k * 9 + 8, none⟩ = some (.int .i64 y8)) (ds := []) #[false, false, false, false, false, false, false, false, false, false] (by kernel_rfl) rfl rfl ⟨X.1, X.2.1, X.2.2.1, X.2.2.2.1, X.2.2.2.2.1, X.2.2.2.2.2.1, X.2.2.2.2.2.2.1, X.2.2.2.2.2.2.2.1, X.2.2.2.2.2.2.2.2, Y⟩ (fun hHeld => ?_)
          refine pure_ (i := 0) (N := some 22) (v := ?_) (a' := ?_) #[true, false, false, false, false, false, false, false, false, false] rfl rfl (by kernel_rfl) (fun _ _ _ h => h) (Or.inl ⟨by rfl, ?_⟩) ?_ ?_
          rotate_left
          · intro w'
            go_simp
            with_reducible rfl
          rotate_left
          · simp only [Act.put, List.setIfInBounds_toArray, List.set_cons_zero, List.set_cons_succ]
            rfl
          refine pure_ (i := 1) (N := some 23) (v := ?_) (a' := ?_) #[true, true, false, false, false, false, false, false, false, false] rfl rfl (by kernel_rfl) (fun _ _ _ h => h) (Or.inl ⟨by rfl, ?_⟩) ?_ ?_
          rotate_left
          · intro w'
            go_simp
            with_reducible rfl
          rotate_left
          · simp only [Act.put, List.setIfInBounds_toArray, List.set_cons_zero, List.set_cons_succ]
            rfl
          refine pure_ (i := 2) (N := some 24) (v := ?_) (a' := ?_) #[true, true, true, false, false, false, false, false, false, false] rfl rfl (by kernel_rfl) (fun _ _ _ h => h) (Or.inl ⟨by rfl, ?_⟩) ?_ ?_
          rotate_left
          · intro w'
            go_simp
            with_reducible rfl
          rotate_left
          · simp only [Act.put, List.setIfInBounds_toArray, List.set_cons_zero, List.set_cons_succ]
            rfl
          refine take_ (i := 3) (N := some 25) (v := ?_) (a' := ?_) #[true, true, true, true, false, false, false, false, false, false] rfl rfl (by kernel_rfl) (fun _ _ _ h => h) (Or.inl ⟨by rfl, ?_⟩) hHeld ?_ ?_
          rotate_left
          · rintro w' ⟨s0_, s1_, s2_, s3_, s4_, s5_, s6_, s7_, s8_, s9_, s10_, s11_, s12_, s13_, s14_, s15_, s16_, s17_⟩
            go_simp
            with_reducible rfl
          rotate_left
          · simp only [Act.put, List.setIfInBounds_toArray, List.set_cons_zero, List.set_cons_succ]
            rfl
          refine pure_ (i := 4) (N := some 26) (v := ?_) (a' := ?_) #[true, true, true, true, true, false, false, false, false, false] rfl rfl (by kernel_rfl) (fun _ _ _ h => h) (Or.inl ⟨by rfl, ?_⟩) ?_ ?_
          rotate_left
          · intro w'
            go_simp
            with_reducible rfl
          rotate_left
          · simp only [Act.put, List.setIfInBounds_toArray, List.set_cons_zero, List.set_cons_succ]
            rfl
          refine pure_ (i := 5) (N := some 27) (v := ?_) (a' := ?_) #[true, true, true, true, true, true, false, false, false, false] rfl rfl (by kernel_rfl) (fun _ _ _ h => h) (Or.inl ⟨by rfl, ?_⟩) ?_ ?_
          rotate_left
          · intro w'
            go_simp
            with_reducible rfl
          rotate_left
          · simp only [Act.put, List.setIfInBounds_toArray, List.set_cons_zero, List.set_cons_succ]
            rfl
          refine pure_ (i := 6) (N := some 28) (v := ?_) (a' := ?_) #[true, true, true, true, true, true, true, false, false, false] rfl rfl (by kernel_rfl) (fun _ _ _ h => h) (Or.inl ⟨by rfl, ?_⟩) ?_ ?_
          rotate_left
          · intro w'
            go_simp
            with_reducible rfl
          rotate_left
          · simp only [Act.put, List.setIfInBounds_toArray, List.set_cons_zero, List.set_cons_succ]
            rfl
          refine take_ (i := 7) (N := some 29) (v := ?_) (a' := ?_) #[true, true, true, true, true, true, true, true, false, false] rfl rfl (by kernel_rfl) (fun _ _ _ h => h) (Or.inl ⟨by rfl, ?_⟩) hHeld ?_ ?_
          rotate_left
          · rintro w' ⟨s0_, s1_, s2_, s3_, s4_, s5_, s6_, s7_, s8_, s9_, s10_, s11_, s12_, s13_, s14_, s15_, s16_, s17_⟩
            go_simp
            with_reducible rfl
          rotate_left
          · simp only [Act.put, List.setIfInBounds_toArray, List.set_cons_zero, List.set_cons_succ]
            rfl
          refine one_ (i := 8) (N := some 30) #[true, true, true, true, true, true, true, true, true, false] rfl rfl (by kernel_rfl) (by decide) (fun K hK => ?_)
          refine goes_ Try.func87 (by kernel_rfl) rfl #[.agg #[.bool x0, .int .i64 x1, .bool x2, .int .u64 x3, .int .i64 x4, .int .i64 x5, .bool x6, .int .u64 x7, .int .i64 x8], .agg #[.bool y0, .int .i64 y1, .bool y2, .int .u64 y3, .int .i64 y4, .int .i64 y5, .bool y6, .int .u64 y7, .int .i64 y8]] (by rfl) rfl rfl (by simp only [List.map_toArray, List.map_cons, List.map_nil] <;> rfl) ?_
          with_reducible refine (HQ.out _).mono ?_
          rintro e w1 ⟨rfl, hb⟩
          refine ⟨_, rfl, ?_⟩
          have HB1 := bl_trans (bl_drew HB) hb
          have X := X.call hb hxl
          have Y := Y.call hb hyl
          have hxl := Nat.lt_of_lt_of_le hxl hb.size
          have hyl := Nat.lt_of_lt_of_le hyl hb.size
          refine hK.out _ _ ⟨X.1, X.2.1, X.2.2.1, X.2.2.2.1, X.2.2.2.2.1, X.2.2.2.2.2.1, X.2.2.2.2.2.2.1, X.2.2.2.2.2.2.2.1, X.2.2.2.2.2.2.2.2, Y⟩ (fun hHeld => ?_)
          clear hK K hb
          refine norm_ (a' := ?_) ?_ ?_
          rotate_left
          · show Act.put _ (some 30) _ = _
            simp only [Act.put, List.setIfInBounds_toArray, List.set_cons_zero, List.set_cons_succ]
            rfl
          refine pure_ (i := 9) (N := some 7) (v := ?_) (a' := ?_) #[true, true, true, true, true, true, true, true, true, true] rfl rfl (by kernel_rfl) (fun _ _ _ h => h) (Or.inl ⟨by rfl, ?_⟩) ?_ ?_
          rotate_left
          · intro w'
            go_simp
            with_reducible rfl
          rotate_left
          · simp only [Act.put, List.setIfInBounds_toArray, List.set_cons_zero, List.set_cons_succ]
            rfl
          refine done_ (by kernel_rfl) ?_
          clear hHeld X Y
          cases p
          · go_wp2
            go_ret
            refine ⟨?_, HB1⟩
            have : withinL xs ys = false := by
              cases h : withinL xs ys
              · rfl
              · have := ((withinL_iff xs ys).1 h).2 k _ _ Hx.out Hy.out
                rw [Hp.out] at this
                cases this
            rw [this]
            rfl
          · go_wp2
            go_roundw
            case rel =>
              refine ⟨k + 1, by omega, by go_num, fun j x y hj hx hy => ?_, HB1⟩
              by_cases e : j = k
              · subst e
                rw [Hx.out] at hx
                rw [Hy.out] at hy
                cases hx
                cases hy
                exact Hp.out
              · exact Hall.out j x y (by omega) hx hy
            case measure => simp [intOf]; omega
        · have hkn : k = n := by omega
          subst hkn
          have Hs := Lib.hid hs.1
          have Ht := Lib.hid ht.1
          clear hs ht
          go_wp2
          go_ret
          refine ⟨?_, HB⟩
          have : withinL xs ys = true := (withinL_iff xs ys).2 ⟨by rw [Hs.out, Ht.out], fun j x y hx hy => Hall.out j x y (by have := (List.getElem?_eq_some_iff.1 hx).1; have := Hs.out; omega) hx hy⟩
          rw [this]
          rfl
    · rw [Bool.true_or]
      clear hs ht
      go_enter Try.func45, Try.ntmps45
      go_wp2_with (go_at_call 41; (refine HE.out.mono ?_); rintro e w0 ⟨rfl, HB0⟩)
      go_ret
      exact ⟨rfl, HB0⟩
  · have hq : ((n : Int) != m) = true := by simp; omega
    rw [decide_eq_false hnm, Bool.false_and]
    clear hs ht hnm HE
    go_enter Try.func45, Try.ntmps45
    go_wp2
    go_ret
    exact ⟨rfl, HB0⟩
set_option maxRecDepth 100000 in
set_option maxHeartbeats 4000000 in
/-- two boxes of the same intervals are the same -/
theorem r14same_calls (A : Option Addr) (n c : Nat) (xs : List Iv) (B : Option Addr) (m d : Nat) (w : World) (hs : SlI w w.heap.size A n xs) (ht : SlI w w.heap.size B m xs) (hn : n ≤ 1000) :
    Calls Try.prog 33 #[.slice A n c, .slice B m d] w fun e w' => e = .returned (.bool true) ∧ Below w.heap.size w w' := by
  have HB0 := Below.refl w.heap.size w
  obtain rfl : n = m := by rw [← hs.1, ht.1]
  have hq : ((n : Int) != n) = false := by simp
  go_enter Try.func33, Try.ntmps33
  go_wp2
  go_loopw [5] (fun i wr => ∃ k : Nat, k ≤ n ∧ i = .int .i64 k ∧ Below w.heap.size w wr) (fun i _ => n - (intOf i).toNat)
  case atStart => exact ⟨0, Nat.zero_le _, rfl, HB0⟩
  case round =>
    obtain ⟨k, hk, rfl, HB⟩ := hrel
    by_cases hlt : k < n
    · obtain ⟨b, off, x, rfl, hbB, hx, X⟩ := (hs.below HB).n9 hlt
      obtain ⟨b', off', y, rfl, hbB', hy, Y⟩ := (ht.below HB).n9 hlt
      obtain rfl : x = y := by rw [hx] at hy; cases hy; rfl
      clear hx hy hs ht
      obtain ⟨x0, ⟨x1, x2, x3, x4⟩, ⟨x5, x6, x7, x8⟩⟩ := x
      have e4 := fun W => run_neIv W x0 x0 x1 x1 x2 x2 x3 x3 x4 x4 x5 x5 x6 x6 x7 x7 x8 x8
      rw [decide_eq_true rfl] at e4
      have X := X.drew
      have Y := Y.drew
      go_wp2_with fail
      refine start_ (n := 9) (S := fun w' => w'.cell? ⟨b, off + k * 9, none⟩ = some (.bool x0) ∧ w'.cell? ⟨b, off + k * 9 + 1, none⟩ = some (.int .i64 x1) ∧ w'.cell? ⟨b, off + k * 9 + 2, none⟩ = some (.bool x2) ∧ w'.cell? ⟨b, off + k * 9 + 3, none⟩ = some (.int .u64 x3) ∧ w'.cell? ⟨b, off + k * 9 + 4, none⟩ = some (.int .i64 x4) ∧ w'.cell? ⟨b, off + k * 9 + 5, none⟩ = some (.int .i64 x5) ∧ w'.cell? ⟨b, off + k * 9 + 6, none⟩ = some (.bool x6) ∧ w'.cell? ⟨b, off + k * 9 + 7, none⟩ = some (.int .u64 x7) ∧ w'.cell? ⟨b, off + k * 9 + 8, none⟩ = some (.int .i64 x8) ∧ w'.cell? ⟨b', off' + k * 9, none⟩ = some (.bool x0) ∧ w'.cell? ⟨b', off' + k * 9 + 1, none⟩ = some (.int .i64 x1) ∧ w'.cell? ⟨b', off' + k * 9 + 2, none⟩ = some (.bool x2) ∧ w'.cell? ⟨b', off' + k * 9 + 3, none⟩ = some (.int .u64 x3) ∧ w'.cell? ⟨b', off' + k * 9 + 4, none⟩ = some (.int .i64 x4) ∧ w'.cell? ⟨b', off' + k * 9 + 5, none⟩ = some (.int .i64 x5) ∧ w'.cell? ⟨b', off' + k * 9 + 6, none⟩ = some (.bool x6) ∧ w'.cell? ⟨b', off' + k * 9 + 7, none⟩ = some (.int .u64 x7) ∧ w'.cell? ⟨b', off' + k * 9 + 8, none⟩ = some (.int .i64 x8)) (ds := []) #[false, false, false, false, false, false, false, false, false] (by kernel_rfl) rfl rfl ⟨X.1, X.2.1, X.2.2.1, X.2.2.2.1, X.2.2.2.2.1, X.2.2.2.2.2.1, X.2.2.2.2.2.2.1, X.2.2.2.2.2.2.2.1, X.2.2.2.2.2.2.2.2, Y⟩ (fun hHeld => ?_)
      refine pure_ (i := 0) (N := some 17) (v := ?_) (a' := ?_) #[true, false, false, false, false, false, false, false, false] rfl rfl (by kernel_rfl) (fun _ _ _ h => h) (Or.inl ⟨by rfl, ?_⟩) ?_ ?_
      rotate_left
      · intro w'
        go_simp
        with_reducible rfl
      rotate_left
      · simp only [Act.put, List.setIfInBounds_toArray, List.set_cons_zero, List.set_cons_succ]
        rfl
      refine pure_ (i := 1) (N := some 18) (v := ?_) (a' := ?_) #[true, true, false, false, false, false, false, false, false] rfl rfl (by kernel_rfl) (fun _ _ _ h => h) (Or.inl ⟨by rfl, ?_⟩) ?_ ?_
      rotate_left
      · intro w'
        go_simp
        with_reducible rfl
      rotate_left
      · simp only [Act.put, List.setIfInBounds_toArray, List.set_cons_zero, List.set_cons_succ]
        rfl
      refine pure_ (i := 2) (N := some 19) (v := ?_) (a' := ?_) #[true, true, true, false, false, false, false, false, false] rfl rfl (by kernel_rfl) (fun _ _ _ h => h) (Or.inl ⟨by rfl, ?_⟩) ?_ ?_
      rotate_left
      · intro w'
        go_simp
        with_reducible rfl
      rotate_left
      · simp only [Act.put, List.setIfInBounds_toArray, List.set_cons_zero, List.set_cons_succ]
        rfl
      refine take_ (i := 3) (N := some 20) (v := ?_) (a' := ?_) #[true, true, true, true, false, false, false, false, false] rfl rfl (by kernel_rfl) (fun _ _ _ h => h) (Or.inl ⟨by rfl, ?_⟩) hHeld ?_ ?_
      rotate_left
      · rintro w' ⟨s0_, s1_, s2_, s3_, s4_, s5_, s6_, s7_, s8_, s9_, s10_, s11_, s12_, s13_, s14_, s15_, s16_, s17_⟩
        go_simp
        with_reducible rfl
      rotate_left
      · simp only [Act.put, List.setIfInBounds_toArray, List.set_cons_zero, List.set_cons_succ]
        rfl
      refine pure_ (i := 4) (N := some 21) (v := ?_) (a' := ?_) #[true, true, true, true, true, false, false, false, false] rfl rfl (by kernel_rfl) (fun _ _ _ h => h) (Or.inl ⟨by rfl, ?_⟩) ?_ ?_
      rotate_left
      · intro w'
        go_simp
        with_reducible rfl
      rotate_left
      · simp only [Act.put, List.setIfInBounds_toArray, List.set_cons_zero, List.set_cons_succ]
        rfl
      refine pure_ (i := 5) (N := some 22) (v := ?_) (a' := ?_) #[true, true, true, true, true, true, false, false, false] rfl rfl (by kernel_rfl) (fun _ _ _ h => h) (Or.inl ⟨by rfl, ?_⟩) ?_ ?_
      rotate_left
      · intro w'
        go_simp
        with_reducible rfl
      rotate_left
      · simp only [Act.put, List.setIfInBounds_toArray, List.set_cons_zero, List.set_cons_succ]
        rfl
      refine pure_ (i := 6) (N := some 23) (v := ?_) (a' := ?_) #[true, true, true, true, true, true, true, false, false] rfl rfl (by kernel_rfl) (fun _ _ _ h => h) (Or.inl ⟨by rfl, ?_⟩) ?_ ?_
      rotate_left
      · intro w'
        go_simp
        with_reducible rfl
      rotate_left
      · simp only [Act.put, List.setIfInBounds_toArray, List.set_cons_zero, List.set_cons_succ]
        rfl
      refine take_ (i := 7) (N := some 24) (v := ?_) (a' := ?_) #[true, true, true, true, true, true, true, true, false] rfl rfl (by kernel_rfl) (fun _ _ _ h => h) (Or.inl ⟨by rfl, ?_⟩) hHeld ?_ ?_
      rotate_left
      · rintro w' ⟨s0_, s1_, s2_, s3_, s4_, s5_, s6_, s7_, s8_, s9_, s10_, s11_, s12_, s13_, s14_, s15_, s16_, s17_⟩
        go_simp
        with_reducible rfl
      rotate_left
      · simp only [Act.put, List.setIfInBounds_toArray, List.set_cons_zero, List.set_cons_succ]
        rfl
      refine pure_ (i := 8) (N := some 25) (v := ?_) (a' := ?_) #[true, true, true, true, true, true, true, true, true] rfl rfl (by kernel_rfl) (fun _ _ _ h => h) (Or.inl ⟨by rfl, ?_⟩) ?_ ?_
      rotate_left
      · intro w'
        go_simp
        with_reducible rfl
      rotate_left
      · simp only [Act.put, List.setIfInBounds_toArray, List.set_cons_zero, List.set_cons_succ]
        rfl
      refine done_ (by kernel_rfl) ?_
      clear hHeld X Y
      go_wp2
      go_roundw
      case rel => exact ⟨k + 1, by omega, by go_num, bl_trans HB (bl_drew (Below.refl _ _))⟩
      case measure => simp [intOf]; omega
    · have hkn : k = n := by omega
      subst hkn
      clear hs ht
      go_wp2
      go_ret
      exact ⟨rfl, HB⟩
end Go.Proofs.Ytagojbgmgkkdpaa.Wk


/- Walks: the reference's Fair, Meet, Hull of boxes. -/
namespace Go.Proofs.Ytagojbgmgkkdpaa.Wk
open Go.RowKit Go.Proofs.Pl Go.Proofs.YtagojbgmgkkdpaaW.PrintLast
set_option linter.unusedSimpArgs false
set_option linter.unusedVariables false

theorem step_appI {w : World} {ops : Array Oper} {o : Oper} {a : Act} {K : Act → World → Prop} {Q : Exit → Act → World → Prop} {E : Prop} (hgd : o.guard = none) (s x : Operand) (ho : o.op = .call { callee := .builtin .append, args := #[s, x], argTypes := #[41, 41] }) (base : Nat) (v : Value) (xs : List Iv) (hs : a.eval s = v) (hown : OwnI w base v xs) (B : Nat) (A : Addr) (m c : Nat) (ys : List Iv) (hx : a.eval x = .slice (some A) m c) (hys : SlI w B (some A) m ys) (hsm : xs.length + m ≤ 1000000) (hbase : base ≤ w.heap.size)
    (h : ∀ v' w', OwnI w' base v' (xs ++ ys) → w.grownBy w' v.ownBlock → (v'.ownBlock = v.ownBlock ∨ v'.ownBlock = some w.heap.size) → K (a.put o.dst v') w') : if Region.wanted o (yielded ops a.tmps) = true then Oper.wp Try.prog o a w K Q else E := by
  have hw : Region.wanted o (yielded ops a.tmps) = true := by simp [Region.wanted, hgd]
  rw [if_pos hw]
  obtain ⟨v', w', hr, h1, h2, h3⟩ := run_appI base v xs hown o.type B A m c ys hys hsm hbase
  unfold Oper.wp execOp
  simp only [ho, resolve, invoke, builtin, Sem.run_bind, Sem.run_pure, Result.andThen_ok, List.map_toArray, List.map_cons, List.map_nil, hs, hx, hr]
  exact h _ _ h1 h2 h3
theorem take_snoc {xs : List Iv} {k : Nat} {x : Iv} (h : xs[k]? = some x) : xs.take (k + 1) = xs.take k ++ [x] := by
  rw [List.take_add_one, h]; rfl
set_option maxRecDepth 100000 in
set_option maxHeartbeats 4000000 in
theorem r14fair_calls (A : Option Addr) (n c : Nat) (xs : List Iv) (w : World) (hs : SlI w w.heap.size A n xs) (hn : n ≤ 1000) :
    Calls Try.prog 39 #[.slice A n c] w fun e w' => ∃ v, e = .returned v ∧ OwnI w' w.heap.size v (fairB xs) ∧ Below w.heap.size w w' := by
  have HE := Lib.hid (r14empty_calls A n c xs w hs hn)
  unfold fairB
  rw [hs.1]
  generalize emptyB xs = p at HE ⊢
  cases p
  · rw [if_neg (by decide)]
    go_enter Try.func39, Try.ntmps39
    go_wp2_with (go_at_call 41; (refine HE.out.mono ?_); rintro e w0 ⟨rfl, HB0⟩)
    go_loopw [4, 5, 6] (fun v i _ wr => ∃ k : Nat, k ≤ n ∧ i = .int .i64 k ∧ OwnI wr w.heap.size v (xs.take k) ∧ Below w.heap.size w wr) (fun _ i _ _ => n - (intOf i).toNat)
    case atStart => exact ⟨0, Nat.zero_le _, rfl, OwnI.nil _ _, HB0⟩
    case round =>
      obtain ⟨k, hk, rfl, O, HB⟩ := hrel
      clear HE
      by_cases hlt : k < n
      · obtain ⟨b, off, x, rfl, hbB, hx, X⟩ := (hs.below HB).n9 hlt
        have hT := Lib.hid (take_snoc hx)
        have hL : (xs.take k).length ≤ 1000 := by rw [List.length_take]; omega
        generalize xs.take k = L at O hT hL
        clear hx hs HB0
        obtain ⟨x0, ⟨x1, x2, x3, x4⟩, ⟨x5, x6, x7, x8⟩⟩ := x
        have O := Lib.hid O
        dsimp only [N9] at X
        go_wp2_with (at_builtin; refine wpList_appI rfl (.tmp 21) (.tmp 23) rfl w.heap.size _ L rfl ((O.out.alloc _).alloc _) (wr.heap.size + 2) ⟨wr.heap.size + 1, 0, none⟩ 1 1 [⟨x0, ⟨x1, x2, x3, x4⟩, ⟨x5, x6, x7, x8⟩⟩] rfl (SlI.lit1 (Blk.new1 wr _ _ _) (by omega)) (by simp; omega) (by have := HB.size; simp; omega) ?_; intro v3 w3 O3 hg3 hat3)
        refine ⟨⟨k + 1, by omega, by go_num, by rw [hT.out]; exact O3, ((HB.alloc HB.size _).alloc (by have := HB.size; simp; omega) _).grown hg3 (by have := HB.size; simp; omega) (fun k hk => (O.out.lt k hk).1)⟩, by simp [intOf]; omega⟩
      · have hkn : k = n := by omega
        subst hkn
        have hl : xs.take k = xs := List.take_of_length_le (by rw [hs.1]; exact Nat.le_refl _)
        rw [hl] at O
        clear hs hl
        go_wp2
        go_ret
        exact ⟨_, rfl, O, HB⟩
  · rw [if_pos rfl]
    have HN := Lib.hid r8none_calls
    go_enter Try.func39, Try.ntmps39
    go_wp2_with (go_at_call 41; (refine HE.out.mono ?_); rintro e w0 ⟨rfl, HB0⟩)
    go_loopw [4, 5, 6] (fun v i _ wr => ∃ k : Nat, k ≤ n ∧ i = .int .i64 k ∧ OwnI wr w.heap.size v (List.replicate k noneI) ∧ Below w.heap.size w wr) (fun _ i _ _ => n - (intOf i).toNat)
    case atStart => exact ⟨0, Nat.zero_le _, rfl, OwnI.nil _ _, HB0⟩
    case round =>
      obtain ⟨k, hk, rfl, O, HB⟩ := hrel
      clear HE
      by_cases hlt : k < n
      · obtain ⟨b, off, x, rfl, hbB, hx, X⟩ := (hs.below HB).n9 hlt
        have hT : Hid (List.replicate (k + 1) noneI = List.replicate k noneI ++ [noneI]) := Lib.hid (by rw [List.replicate_succ'])
        have hL : (List.replicate k noneI).length ≤ 1000 := by rw [List.length_replicate]; omega
        generalize List.replicate k noneI = L at O hT hL
        clear hx hs HB0
        obtain ⟨x0, ⟨x1, x2, x3, x4⟩, ⟨x5, x6, x7, x8⟩⟩ := x
        have O := Lib.hid O
        dsimp only [N9] at X
        generalize hz : noneI = z at HN hT
        have hz := Lib.hid hz
        obtain ⟨z0, ⟨z1, z2, z3, z4⟩, ⟨z5, z6, z7, z8⟩⟩ := z
        dsimp only at HN
        go_wp2_with (first
          | (go_at_call 71; (refine (HN.out _).mono ?_); rintro e w1 ⟨rfl, hb⟩; have HB1 := bl_trans (bl_alloc HB (.cells #[.bool x0, .int .i64 x1, .bool x2, .int .u64 x3, .int .i64 x4, .int .i64 x5, .bool x6, .int .u64 x7, .int .i64 x8] 26)) hb; have O1 := Lib.hid ((O.out.alloc (.cells #[.bool x0, .int .i64 x1, .bool x2, .int .u64 x3, .int .i64 x4, .int .i64 x5, .bool x6, .int .u64 x7, .int .i64 x8] 26)).call hb); have BX := Lib.hid ((Blk.new wr 26 #[.bool x0, .int .i64 x1, .bool x2, .int .u64 x3, .int .i64 x4, .int .i64 x5, .bool x6, .int .u64 x7, .int .i64 x8]).call hb); clear hb)
          | (refine wpList_stG rfl 26 (.tmp 6) (.tmp 20) rfl wr.heap.size _ #[.bool z0, .int .i64 z1, .bool z2, .int .u64 z3, .int .i64 z4, .int .i64 z5, .bool z6, .int .u64 z7, .int .i64 z8] BX.out rfl rfl (by kernel_rfl) rfl (by simp [Value.oneCell']) ?_; intro W2 X2 P2; have HB2 := P2.bel HB1 HB.size; have O2 := Lib.hid (O1.out.put P2 (fun k hk => by have := (O.out.lt k hk).2; omega)); obtain ⟨⟨q0, q1, q2, q3, q4, q5, q6, q7, q8⟩, _⟩ := X2.c9; clear X2 P2)
          | (at_builtin; refine wpList_appI rfl (.tmp 21) (.tmp 23) rfl w.heap.size _ L rfl (O2.out.alloc _) (W2.heap.size + 1) ⟨W2.heap.size, 0, none⟩ 1 1 [⟨z0, ⟨z1, z2, z3, z4⟩, ⟨z5, z6, z7, z8⟩⟩] rfl (SlI.lit1 (Blk.new W2 _ _) (by omega)) (by simp; omega) (by have := HB2.size; simp; omega) ?_; intro v3 w3 O3 hg3 hat3))
        refine ⟨⟨k + 1, by omega, by go_num, by rw [hT.out]; exact O3, (HB2.alloc HB2.size _).grown hg3 (by have := HB2.size; simp; omega) (fun k hk => (O.out.lt k hk).1)⟩, by simp [intOf]; omega⟩
      · have hkn : k = n := by omega
        subst hkn
        clear hs
        go_wp2
        go_ret
        exact ⟨_, rfl, O, HB⟩
set_option maxRecDepth 100000 in
set_option maxHeartbeats 8000000 in
theorem r14meet_calls (A : Option Addr) (n c : Nat) (xs : List Iv) (B : Option Addr) (m d : Nat) (ys : List Iv) (w : World) (hs : SlI w w.heap.size A n xs) (ht : SlI w w.heap.size B m ys) (hn : n ≤ 1000) :
    Calls Try.prog 35 #[.slice A n c, .slice B m d] w fun e w' => ∃ v, e = .returned v ∧ OwnI w' w.heap.size v (meetB xs ys) ∧ Below w.heap.size w w' := by
  have HB0 := Below.refl w.heap.size w
  unfold meetB
  rw [hs.1, ht.1]
  by_cases hnm : n = m
  · subst hnm
    have hq : ((n : Int) != n) = false := by simp
    rw [if_pos rfl]
    go_enter Try.func35, Try.ntmps35
    go_wp2
    go_loopw [5, 6] (fun v i wr => ∃ k : Nat, k ≤ n ∧ i = .int .i64 k ∧ OwnI wr w.heap.size v (List.zipWith meet2 (xs.take k) (ys.take k)) ∧ Below w.heap.size w wr) (fun _ i _ => n - (intOf i).toNat)
    case atStart => exact ⟨0, Nat.zero_le _, rfl, OwnI.nil _ _, HB0⟩
    case round =>
      obtain ⟨k, hk, rfl, O, HB⟩ := hrel
      by_cases hlt : k < n
      · obtain ⟨b, off, x, rfl, hbB, hx, X⟩ := hs.n9 hlt
        obtain ⟨b', off', y, rfl, hbB', hy, Y⟩ := ht.n9 hlt
        have hT : Hid (List.zipWith meet2 (xs.take (k + 1)) (ys.take (k + 1)) = List.zipWith meet2 (xs.take k) (ys.take k) ++ [meet2 x y]) := Lib.hid (by rw [take_snoc hx, take_snoc hy, List.zipWith_append (by rw [List.length_take, List.length_take, hs.1, ht.1])]; rfl)
        have hL : (List.zipWith meet2 (xs.take k) (ys.take k)).length ≤ 1000 := by rw [List.length_zipWith, List.length_take]; omega
        have HQ := Lib.hid (fun W => r8two_calls x.emp x.lo.k x.lo.n x.lo.m x.lo.e x.hi.k x.hi.n x.hi.m x.hi.e y.emp y.lo.k y.lo.n y.lo.m y.lo.e y.hi.k y.hi.n y.hi.m y.hi.e W)
        have hr : twoI x y = meet2 x y := two_eq x y
        generalize List.zipWith meet2 (xs.take k) (ys.take k) = L at O hT hL
        clear hx hy hs ht HB0 
        have X0 := Lib.hid X
        have Y0 := Lib.hid Y
        have X := X.call (bl_drew HB) hbB
        have Y := Y.call (bl_drew HB) hbB'
        generalize meet2 x y = r at hr hT
        obtain ⟨x0, ⟨x1, x2, x3, x4⟩, ⟨x5, x6, x7, x8⟩⟩ := x
        obtain ⟨y0, ⟨y1, y2, y3, y4⟩, ⟨y5, y6, y7, y8⟩⟩ := y
        obtain ⟨r0, ⟨r1, r2, r3, r4⟩, ⟨r5, r6, r7, r8⟩⟩ := r
        dsimp only at HQ hr
        rw [hr] at HQ
        dsimp only at HQ
        clear hr
        have O := Lib.hid O
        go_wp2_with fail
        obtain ⟨v, hv⟩ : ∃ v, v = u5 := ⟨_, rfl⟩
        subst hv
        refine start_ (n := 13) (S := fun w' => w'.cell? ⟨b, off + k * 9, none⟩ = some (.bool x0) ∧ w'.cell? ⟨b, off + k * 9 + 1, none⟩ = some (.int .i64 x1) ∧ w'.cell? ⟨b, off + k * 9 + 2, none⟩ = some (.bool x2) ∧ w'.cell? ⟨b, off + k * 9 + 3, none⟩ = some (.int .u64 x3) ∧ w'.cell? ⟨b, off + k * 9 + 4, none⟩ = some (.int .i64 x4) ∧ w'.cell? ⟨b, off + k * 9 + 5, none⟩ = some (.int .i64 x5) ∧ w'.cell? ⟨b, off + k * 9 + 6, none⟩ = some (.bool x6) ∧ w'.cell? ⟨b, off + k * 9 + 7, none⟩ = some (.int .u64 x7) ∧ w'.cell? ⟨b, off + k * 9 + 8, none⟩ = some (.int .i64 x8) ∧ w'.cell? ⟨b', off' + k * 9, none⟩ = some (.bool y0) ∧ w'.cell? ⟨b', off' + k * 9 + 1, none⟩ = some (.int .i64 y1) ∧ w'.cell? ⟨b', off' + k * 9 + 2, none⟩ = some (.bool y2) ∧ w'.cell? ⟨b', off' + k * 9 + 3, none⟩ = some (.int .u64 y3) ∧ w'.cell? ⟨b', off' + k * 9 + 4, none⟩ = some (.int .i64 y4) ∧ w'.cell? ⟨b', off' + k * 9 + 5, none⟩ = some (.int .i64 y5) ∧ w'.cell? ⟨b', off' + k * 9 + 6, none⟩ = some (.bool y6) ∧ w'.cell? ⟨b', off' + k * 9 + 7, none⟩ = some (.int .u64 y7) ∧ w'.cell? ⟨b', off' + k * 9 + 8, none⟩ = some (.int .i64 y8)) (ds := []) #[false, false, false, false, false, false, false, false, false, false, false, false, false] (by kernel_rfl) rfl rfl ⟨X.1, X.2.1, X.2.2.1, X.2.2.2.1, X.2.2.2.2.1, X.2.2.2.2.2.1, X.2.2.2.2.2.2.1, X.2.2.2.2.2.2.2.1, X.2.2.2.2.2.2.2.2, Y⟩ (fun hHeld => ?_)
        refine pure_ (i := 0) (N := some 18) (v := ?_) (a' := ?_) #[true, false, false, false, false, false, false, false, false, false, false, false, false] rfl rfl (by kernel_rfl) (fun _ _ _ h => h) (Or.inl ⟨by rfl, ?_⟩) ?_ ?_
        rotate_left
        · intro w'
          go_simp
          with_reducible rfl
        rotate_left
        · simp only [Act.put, List.setIfInBounds_toArray, List.set_cons_zero, List.set_cons_succ]
          rfl
        refine pure_ (i := 1) (N := some 19) (v := ?_) (a' := ?_) #[true, true, false, false, false, false, false, false, false, false, false, false, false] rfl rfl (by kernel_rfl) (fun _ _ _ h => h) (Or.inl ⟨by rfl, ?_⟩) ?_ ?_
        rotate_left
        · intro w'
          go_simp
          with_reducible rfl
        rotate_left
        · simp only [Act.put, List.setIfInBounds_toArray, List.set_cons_zero, List.set_cons_succ]
          rfl
        refine pure_ (i := 2) (N := some 20) (v := ?_) (a' := ?_) #[true, true, true, false, false, false, false, false, false, false, false, false, false] rfl rfl (by kernel_rfl) (fun _ _ _ h => h) (Or.inl ⟨by rfl, ?_⟩) ?_ ?_
        rotate_left
        · intro w'
          go_simp
          with_reducible rfl
        rotate_left
        · simp only [Act.put, List.setIfInBounds_toArray, List.set_cons_zero, List.set_cons_succ]
          rfl
        refine pure_ (i := 3) (N := some 21) (v := ?_) (a' := ?_) #[true, true, true, true, false, false, false, false, false, false, false, false, false] rfl rfl (by kernel_rfl) (fun _ _ _ h => h) (Or.inl ⟨by rfl, ?_⟩) ?_ ?_
        rotate_left
        · intro w'
          go_simp
          with_reducible rfl
        rotate_left
        · simp only [Act.put, List.setIfInBounds_toArray, List.set_cons_zero, List.set_cons_succ]
          rfl
        refine take_ (i := 4) (N := some 22) (v := ?_) (a' := ?_) #[true, true, true, true, true, false, false, false, false, false, false, false, false] rfl rfl (by kernel_rfl) (fun _ _ _ h => h) (Or.inl ⟨by rfl, ?_⟩) hHeld ?_ ?_
        rotate_left
        · rintro w' ⟨s0_, s1_, s2_, s3_, s4_, s5_, s6_, s7_, s8_, s9_, s10_, s11_, s12_, s13_, s14_, s15_, s16_, s17_⟩
          go_simp
          with_reducible rfl
        rotate_left
        · simp only [Act.put, List.setIfInBounds_toArray, List.set_cons_zero, List.set_cons_succ]
          rfl
        refine pure_ (i := 5) (N := some 23) (v := ?_) (a' := ?_) #[true, true, true, true, true, true, false, false, false, false, false, false, false] rfl rfl (by kernel_rfl) (fun _ _ _ h => h) (Or.inl ⟨by rfl, ?_⟩) ?_ ?_
        rotate_left
        · intro w'
          go_simp
          with_reducible rfl
        rotate_left
        · simp only [Act.put, List.setIfInBounds_toArray, List.set_cons_zero, List.set_cons_succ]
          rfl
        refine pure_ (i := 6) (N := some 24) (v := ?_) (a' := ?_) #[true, true, true, true, true, true, true, false, false, false, false, false, false] rfl rfl (by kernel_rfl) (fun _ _ _ h => h) (Or.inl ⟨by rfl, ?_⟩) ?_ ?_
        rotate_left
        · intro w'
          go_simp
          with_reducible rfl
        rotate_left
        · simp only [Act.put, List.setIfInBounds_toArray, List.set_cons_zero, List.set_cons_succ]
          rfl
        refine pure_ (i := 7) (N := some 25) (v := ?_) (a' := ?_) #[true, true, true, true, true, true, true, true, false, false, false, false, false] rfl rfl (by kernel_rfl) (fun _ _ _ h => h) (Or.inl ⟨by rfl, ?_⟩) ?_ ?_
        rotate_left
        · intro w'
          go_simp
          with_reducible rfl
        rotate_left
        · simp only [Act.put, List.setIfInBounds_toArray, List.set_cons_zero, List.set_cons_succ]
          rfl
        refine take_ (i := 8) (N := some 26) (v := ?_) (a' := ?_) #[true, true, true, true, true, true, true, true, true, false, false, false, false] rfl rfl (by kernel_rfl) (fun _ _ _ h => h) (Or.inl ⟨by rfl, ?_⟩) hHeld ?_ ?_
        rotate_left
        · rintro w' ⟨s0_, s1_, s2_, s3_, s4_, s5_, s6_, s7_, s8_, s9_, s10_, s11_, s12_, s13_, s14_, s15_, s16_, s17_⟩
          go_simp
          with_reducible rfl
        rotate_left
        · simp only [Act.put, List.setIfInBounds_toArray, List.set_cons_zero, List.set_cons_succ]
          rfl
        refine one_ (i := 9) (N := some 27) #[true, true, true, true, true, true, true, true, true, true, false, false, false] rfl rfl (by kernel_rfl) (by decide) (fun K hK => ?_)
        refine goes_ Try.func80 (by kernel_rfl) rfl #[.agg #[.bool x0, .int .i64 x1, .bool x2, .int .u64 x3, .int .i64 x4, .int .i64 x5, .bool x6, .int .u64 x7, .int .i64 x8], .agg #[.bool y0, .int .i64 y1, .bool y2, .int .u64 y3, .int .i64 y4, .int .i64 y5, .bool y6, .int .u64 y7, .int .i64 y8]] (by rfl) rfl rfl (by simp only [List.map_toArray, List.map_cons, List.map_nil] <;> rfl) ?_
        with_reducible refine (HQ.out _).mono ?_
        rintro e w1 ⟨rfl, hb⟩
        refine ⟨_, rfl, ?_⟩
        have HB1 := bl_trans (bl_drew HB) hb
        have O1 := Lib.hid (O.out.drew.call hb)
        have X := X0.out.call HB1 hbB
        have Y := Y0.out.call HB1 hbB'
        refine hK.out _ _ ⟨X.1, X.2.1, X.2.2.1, X.2.2.2.1, X.2.2.2.2.1, X.2.2.2.2.2.1, X.2.2.2.2.2.2.1, X.2.2.2.2.2.2.2.1, X.2.2.2.2.2.2.2.2, Y⟩ (fun hHeld => ?_)
        clear hK K hb
        refine norm_ (a' := ?_) ?_ ?_
        rotate_left
        · show Act.put _ (some 27) _ = _
          simp only [Act.put, List.setIfInBounds_toArray, List.set_cons_zero, List.set_cons_succ]
          rfl
        refine one_ (i := 10) (N := some 28) #[true, true, true, true, true, true, true, true, true, true, true, false, false] rfl rfl (by kernel_rfl) (by decide) (fun K hK => ?_)
        refine value_ (v := ?_) (w1 := ?_) (by rfl) rfl ?_ ?_
        rotate_left 2
        · go_simp
          first | rfl | (constructor <;> rfl)
        have O2 := Lib.hid (O1.out.alloc (.cells #[.bool r0, .int .i64 r1, .bool r2, .int .u64 r3, .int .i64 r4, .int .i64 r5, .bool r6, .int .u64 r7, .int .i64 r8] 26))
        have HB2 := bl_alloc HB1 (.cells #[.bool r0, .int .i64 r1, .bool r2, .int .u64 r3, .int .i64 r4, .int .i64 r5, .bool r6, .int .u64 r7, .int .i64 r8] 26)
        have X := X0.out.call HB2 hbB
        have Y := Y0.out.call HB2 hbB'
        refine hK.out _ _ ⟨X.1, X.2.1, X.2.2.1, X.2.2.2.1, X.2.2.2.2.1, X.2.2.2.2.2.1, X.2.2.2.2.2.2.1, X.2.2.2.2.2.2.2.1, X.2.2.2.2.2.2.2.2, Y⟩ (fun hHeld => ?_)
        clear hK K
        refine norm_ (a' := ?_) ?_ ?_
        rotate_left
        · show Act.put _ (some 28) _ = _
          simp only [Act.put, List.setIfInBounds_toArray, List.set_cons_zero, List.set_cons_succ]
          rfl
        refine one_ (i := 11) (N := some 29) #[true, true, true, true, true, true, true, true, true, true, true, true, false] rfl rfl (by kernel_rfl) (by decide) (fun K hK => ?_)
        refine step_appI (by rfl) (.tmp 18) (.tmp 28) (by rfl) w.heap.size v L (by rfl) O2.out (w1.heap.size + 1) ⟨w1.heap.size, 0, none⟩ 1 1 [⟨r0, ⟨r1, r2, r3, r4⟩, ⟨r5, r6, r7, r8⟩⟩] (by rfl) (SlI.lit1 (Blk.new w1 _ _) (by omega)) (by simp; omega) (by have := HB2.size; simp at this ⊢; omega) ?_
        intro v3 w3 O3 hg3 hat3
        have HB3 := HB2.grown hg3 HB2.size (fun k hk => (O.out.lt k hk).1)
        have X := X0.out.call HB3 hbB
        have Y := Y0.out.call HB3 hbB'
        refine hK.out _ _ ⟨X.1, X.2.1, X.2.2.1, X.2.2.2.1, X.2.2.2.2.1, X.2.2.2.2.2.1, X.2.2.2.2.2.2.1, X.2.2.2.2.2.2.2.1, X.2.2.2.2.2.2.2.2, Y⟩ (fun hHeld => ?_)
        clear hK K
        refine norm_ (a' := ?_) ?_ ?_
        rotate_left
        · show Act.put _ (some 29) _ = _
          simp only [Act.put, List.setIfInBounds_toArray, List.set_cons_zero, List.set_cons_succ]
          rfl
        refine pure_ (i := 12) (N := some 5) (v := ?_) (a' := ?_) #[true, true, true, true, true, true, true, true, true, true, true, true, true] rfl rfl (by kernel_rfl) (fun _ _ _ h => h) (Or.inl ⟨by rfl, ?_⟩) ?_ ?_
        rotate_left
        · intro w'
          go_simp
          with_reducible rfl
        rotate_left
        · simp only [Act.put, List.setIfInBounds_toArray, List.set_cons_zero, List.set_cons_succ]
          rfl
        refine done_ (by kernel_rfl) ?_
        clear hHeld X Y
        go_wp2_with fail
        go_roundw
        case rel => exact ⟨k + 1, by omega, by go_num, by rw [hT.out]; exact O3, HB3⟩
        case measure => simp [intOf]; omega
      · have hkn : k = n := by omega
        subst hkn
        rw [List.take_of_length_le (by rw [hs.1]; exact Nat.le_refl _), List.take_of_length_le (by rw [ht.1]; exact Nat.le_refl _)] at O
        have hl : (List.zipWith meet2 xs ys).length = k := by rw [List.length_zipWith, hs.1, ht.1, Nat.min_self]
        clear hs ht
        obtain ⟨A', c', rfl, S'⟩ := O.sln hl
        have HF := Lib.hid (r14fair_calls A' k c' _ wr S' hn)
        go_wp2_with (go_at_call 39; (refine HF.out.mono ?_); rintro e w1 ⟨v, rfl, O1, hb⟩)
        go_ret
        exact ⟨_, rfl, O1.base HB.size, bl_trans HB hb⟩
  · have hq : ((n : Int) != m) = true := by simp; omega
    rw [if_neg hnm]
    clear hs ht hnm
    go_enter Try.func35, Try.ntmps35
    go_wp2
    go_ret
    exact ⟨_, rfl, OwnI.nil _ _, HB0⟩
end Go.Proofs.Ytagojbgmgkkdpaa.Wk


/- Walk: the reference's Hull of boxes. -/
namespace Go.Proofs.Ytagojbgmgkkdpaa.Wk
open Go.RowKit Go.Proofs.Pl Go.Proofs.YtagojbgmgkkdpaaW.PrintLast
set_option linter.unusedSimpArgs false
set_option linter.unusedVariables false

set_option maxRecDepth 100000 in
set_option maxHeartbeats 8000000 in
theorem r14hull_calls (A : Option Addr) (n c : Nat) (xs : List Iv) (B : Option Addr) (m d : Nat) (ys : List Iv) (w : World) (hs : SlI w w.heap.size A n xs) (ht : SlI w w.heap.size B m ys) (wx : ∀ x ∈ xs, WfIv x) (wy : ∀ x ∈ ys, WfIv x) (hn : n ≤ 1000) :
    Calls Try.prog 37 #[.slice A n c, .slice B m d] w fun e w' => ∃ v, e = .returned v ∧ OwnI w' w.heap.size v (hullB xs ys) ∧ Below w.heap.size w w' := by
  have HB0 := Below.refl w.heap.size w
  unfold hullB
  rw [hs.1, ht.1]
  by_cases hnm : n = m
  · subst hnm
    have hq : ((n : Int) != n) = false := by simp
    rw [if_pos rfl]
    have HE := Lib.hid (r14empty_calls A n c xs w hs hn)
    have HG := Lib.hid (fun W h => r14empty_calls B n d ys W h hn)
    cases hp : emptyB xs
    · rw [hp] at HE
      cases hp' : emptyB ys
      · rw [hp'] at HG
        clear hp hp'
        rw [if_neg (by decide), if_neg (by decide)]
        go_enter Try.func37, Try.ntmps37
        go_wp2_with (first
          | (go_at_call 41; (with_reducible refine HE.out.mono ?_); rintro e w0 ⟨rfl, HBa⟩)
          | (go_at_call 41; (refine (HG.out _ (ht.on HBa)).mono ?_); rintro e w1 ⟨rfl, hb⟩; replace HB0 := bl_trans HBa hb; clear hb))
        clear HE HG HBa
        go_loopw [7, 8] (fun v i wr => ∃ k : Nat, k ≤ n ∧ i = .int .i64 k ∧ OwnI wr w.heap.size v (List.zipWith hull2 (xs.take k) (ys.take k)) ∧ Below w.heap.size w wr) (fun _ i _ => n - (intOf i).toNat)
        case atStart => exact ⟨0, Nat.zero_le _, rfl, OwnI.nil _ _, HB0⟩
        case round =>
          obtain ⟨k, hk, rfl, O, HB⟩ := hrel
          by_cases hlt : k < n
          · obtain ⟨b, off, x, rfl, hbB, hx, X⟩ := hs.n9 hlt
            obtain ⟨b', off', y, rfl, hbB', hy, Y⟩ := ht.n9 hlt
            have hT : Hid (List.zipWith hull2 (xs.take (k + 1)) (ys.take (k + 1)) = List.zipWith hull2 (xs.take k) (ys.take k) ++ [hull2 x y]) := Lib.hid (by rw [take_snoc hx, take_snoc hy, List.zipWith_append (by rw [List.length_take, List.length_take, hs.1, ht.1])]; rfl)
            have hL : (List.zipWith hull2 (xs.take k) (ys.take k)).length ≤ 1000 := by rw [List.length_zipWith, List.length_take]; omega
            have HQ := Lib.hid (fun W => r8both_calls x.emp x.lo.k x.lo.n x.lo.m x.lo.e x.hi.k x.hi.n x.hi.m x.hi.e y.emp y.lo.k y.lo.n y.lo.m y.lo.e y.hi.k y.hi.n y.hi.m y.hi.e W)
            have hr : bothI x y = hull2 x y := both_eq (wx _ (List.mem_of_getElem? hx)) (wy _ (List.mem_of_getElem? hy))
            generalize List.zipWith hull2 (xs.take k) (ys.take k) = L at O hT hL
            clear hx hy hs ht HB0 wx wy
            have X0 := Lib.hid X
            have Y0 := Lib.hid Y
            have X := X.call (bl_drew HB) hbB
            have Y := Y.call (bl_drew HB) hbB'
            generalize hull2 x y = r at hr hT
            obtain ⟨x0, ⟨x1, x2, x3, x4⟩, ⟨x5, x6, x7, x8⟩⟩ := x
            obtain ⟨y0, ⟨y1, y2, y3, y4⟩, ⟨y5, y6, y7, y8⟩⟩ := y
            obtain ⟨r0, ⟨r1, r2, r3, r4⟩, ⟨r5, r6, r7, r8⟩⟩ := r
            dsimp only at HQ hr
            rw [hr] at HQ
            dsimp only at HQ
            clear hr
            have O := Lib.hid O
            go_wp2_with fail
            obtain ⟨v, hv⟩ : ∃ v, v = u7 := ⟨_, rfl⟩
            subst hv
            refine start_ (n := 13) (S := fun w' => w'.cell? ⟨b, off + k * 9, none⟩ = some (.bool x0) ∧ w'.cell? ⟨b, off + k * 9 + 1, none⟩ = some (.int .i64 x1) ∧ w'.cell? ⟨b, off + k * 9 + 2, none⟩ = some (.bool x2) ∧ w'.cell? ⟨b, off + k * 9 + 3, none⟩ = some (.int .u64 x3) ∧ w'.cell? ⟨b, off + k * 9 + 4, none⟩ = some (.int .i64 x4) ∧ w'.cell? ⟨b, off + k * 9 + 5, none⟩ = some (.int .i64 x5) ∧ w'.cell? ⟨b, off + k * 9 + 6, none⟩ = some (.bool x6) ∧ w'.cell? ⟨b, off + k * 9 + 7, none⟩ = some (.int .u64 x7) ∧ w'.cell? ⟨b, off + k * 9 + 8, none⟩ = some (.int .i64 x8) ∧ w'.cell? ⟨b', off' + k * 9, none⟩ = some (.bool y0) ∧ w'.cell? ⟨b', off' + k * 9 + 1, none⟩ = some (.int .i64 y1) ∧ w'.cell? ⟨b', off' + k * 9 + 2, none⟩ = some (.bool y2) ∧ w'.cell? ⟨b', off' + k * 9 + 3, none⟩ = some (.int .u64 y3) ∧ w'.cell? ⟨b', off' + k * 9 + 4, none⟩ = some (.int .i64 y4) ∧ w'.cell? ⟨b', off' + k * 9 + 5, none⟩ = some (.int .i64 y5) ∧ w'.cell? ⟨b', off' + k * 9 + 6, none⟩ = some (.bool y6) ∧ w'.cell? ⟨b', off' + k * 9 + 7, none⟩ = some (.int .u64 y7) ∧ w'.cell? ⟨b', off' + k * 9 + 8, none⟩ = some (.int .i64 y8)) (ds := []) #[false, false, false, false, false, false, false, false, false, false, false, false, false] (by kernel_rfl) rfl rfl ⟨X.1, X.2.1, X.2.2.1, X.2.2.2.1, X.2.2.2.2.1, X.2.2.2.2.2.1, X.2.2.2.2.2.2.1, X.2.2.2.2.2.2.2.1, X.2.2.2.2.2.2.2.2, Y⟩ (fun hHeld => ?_)
            refine pure_ (i := 0) (N := some 30) (v := ?_) (a' := ?_) #[true, false, false, false, false, false, false, false, false, false, false, false, false] rfl rfl (by kernel_rfl) (fun _ _ _ h => h) (Or.inl ⟨by rfl, ?_⟩) ?_ ?_
            rotate_left
            · intro w'
              go_simp
              with_reducible rfl
            rotate_left
            · simp only [Act.put, List.setIfInBounds_toArray, List.set_cons_zero, List.set_cons_succ]
              rfl
            refine pure_ (i := 1) (N := some 31) (v := ?_) (a' := ?_) #[true, true, false, false, false, false, false, false, false, false, false, false, false] rfl rfl (by kernel_rfl) (fun _ _ _ h => h) (Or.inl ⟨by rfl, ?_⟩) ?_ ?_
            rotate_left
            · intro w'
              go_simp
              with_reducible rfl
            rotate_left
            · simp only [Act.put, List.setIfInBounds_toArray, List.set_cons_zero, List.set_cons_succ]
              rfl
            refine pure_ (i := 2) (N := some 32) (v := ?_) (a' := ?_) #[true, true, true, false, false, false, false, false, false, false, false, false, false] rfl rfl (by kernel_rfl) (fun _ _ _ h => h) (Or.inl ⟨by rfl, ?_⟩) ?_ ?_
            rotate_left
            · intro w'
              go_simp
              with_reducible rfl
            rotate_left
            · simp only [Act.put, List.setIfInBounds_toArray, List.set_cons_zero, List.set_cons_succ]
              rfl
            refine pure_ (i := 3) (N := some 33) (v := ?_) (a' := ?_) #[true, true, true, true, false, false, false, false, false, false, false, false, false] rfl rfl (by kernel_rfl) (fun _ _ _ h => h) (Or.inl ⟨by rfl, ?_⟩) ?_ ?_
            rotate_left
            · intro w'
              go_simp
              with_reducible rfl
            rotate_left
            · simp only [Act.put, List.setIfInBounds_toArray, List.set_cons_zero, List.set_cons_succ]
              rfl
            refine take_ (i := 4) (N := some 34) (v := ?_) (a' := ?_) #[true, true, true, true, true, false, false, false, false, false, false, false, false] rfl rfl (by kernel_rfl) (fun _ _ _ h => h) (Or.inl ⟨by rfl, ?_⟩) hHeld ?_ ?_
            rotate_left
            · rintro w' ⟨s0_, s1_, s2_, s3_, s4_, s5_, s6_, s7_, s8_, s9_, s10_, s11_, s12_, s13_, s14_, s15_, s16_, s17_⟩
              go_simp
              with_reducible rfl
            rotate_left
            · simp only [Act.put, List.setIfInBounds_toArray, List.set_cons_zero, List.set_cons_succ]
              rfl
            refine pure_ (i := 5) (N := some 35) (v := ?_) (a' := ?_) #[true, true, true, true, true, true, false, false, false, false, false, false, false] rfl rfl (by kernel_rfl) (fun _ _ _ h => h) (Or.inl ⟨by rfl, ?_⟩) ?_ ?_
            rotate_left
            · intro w'
              go_simp
              with_reducible rfl
            rotate_left
            · simp only [Act.put, List.setIfInBounds_toArray, List.set_cons_zero, List.set_cons_succ]
              rfl
            refine pure_ (i := 6) (N := some 36) (v := ?_) (a' := ?_) #[true, true, true, true, true, true, true, false, false, false, false, false, false] rfl rfl (by kernel_rfl) (fun _ _ _ h => h) (Or.inl ⟨by rfl, ?_⟩) ?_ ?_
            rotate_left
            · intro w'
              go_simp
              with_reducible rfl
            rotate_left
            · simp only [Act.put, List.setIfInBounds_toArray, List.set_cons_zero, List.set_cons_succ]
              rfl
            refine pure_ (i := 7) (N := some 37) (v := ?_) (a' := ?_) #[true, true, true, true, true, true, true, true, false, false, false, false, false] rfl rfl (by kernel_rfl) (fun _ _ _ h => h) (Or.inl ⟨by rfl, ?_⟩) ?_ ?_
            rotate_left
            · intro w'
              go_simp
              with_reducible rfl
            rotate_left
            · simp only [Act.put, List.setIfInBounds_toArray, List.set_cons_zero, List.set_cons_succ]
              rfl
            refine take_ (i := 8) (N := some 38) (v := ?_) (a' := ?_) #[true, true, true, true, true, true, true, true, true, false, false, false, false] rfl rfl (by kernel_rfl) (fun _ _ _ h => h) (Or.inl ⟨by rfl, ?_⟩) hHeld ?_ ?_
            rotate_left
            · rintro w' ⟨s0_, s1_, s2_, s3_, s4_, s5_, s6_, s7_, s8_, s9_, s10_, s11_, s12_, s13_, s14_, s15_, s16_, s17_⟩
              go_simp
              with_reducible rfl
            rotate_left
            · simp only [Act.put, List.setIfInBounds_toArray, List.set_cons_zero, List.set_cons_succ]
              rfl
            refine one_ (i := 9) (N := some 39) #[true, true, true, true, true, true, true, true, true, true, false, false, false] rfl rfl (by kernel_rfl) (by decide) (fun K hK => ?_)
            refine goes_ Try.func81 (by kernel_rfl) rfl #[.agg #[.bool x0, .int .i64 x1, .bool x2, .int .u64 x3, .int .i64 x4, .int .i64 x5, .bool x6, .int .u64 x7, .int .i64 x8], .agg #[.bool y0, .int .i64 y1, .bool y2, .int .u64 y3, .int .i64 y4, .int .i64 y5, .bool y6, .int .u64 y7, .int .i64 y8]] (by rfl) rfl rfl (by simp only [List.map_toArray, List.map_cons, List.map_nil] <;> rfl) ?_
            with_reducible refine (HQ.out _).mono ?_
            rintro e w1 ⟨rfl, hb⟩
            refine ⟨_, rfl, ?_⟩
            have HB1 := bl_trans (bl_drew HB) hb
            have O1 := Lib.hid (O.out.drew.call hb)
            have X := X0.out.call HB1 hbB
            have Y := Y0.out.call HB1 hbB'
            refine hK.out _ _ ⟨X.1, X.2.1, X.2.2.1, X.2.2.2.1, X.2.2.2.2.1, X.2.2.2.2.2.1, X.2.2.2.2.2.2.1, X.2.2.2.2.2.2.2.1, X.2.2.2.2.2.2.2.2, Y⟩ (fun hHeld => ?_)
            clear hK K hb
            refine norm_ (a' := ?_) ?_ ?_
            rotate_left
            · show Act.put _ (some 39) _ = _
              simp only [Act.put, List.setIfInBounds_toArray, List.set_cons_zero, List.set_cons_succ]
              rfl
            refine one_ (i := 10) (N := some 40) #[true, true, true, true, true, true, true, true, true, true, true, false, false] rfl rfl (by kernel_rfl) (by decide) (fun K hK => ?_)
            refine value_ (v := ?_) (w1 := ?_) (by rfl) rfl ?_ ?_
            rotate_left 2
            · go_simp
              first | rfl | (constructor <;> rfl)
            have O2 := Lib.hid (O1.out.alloc (.cells #[.bool r0, .int .i64 r1, .bool r2, .int .u64 r3, .int .i64 r4, .int .i64 r5, .bool r6, .int .u64 r7, .int .i64 r8] 26))
            have HB2 := bl_alloc HB1 (.cells #[.bool r0, .int .i64 r1, .bool r2, .int .u64 r3, .int .i64 r4, .int .i64 r5, .bool r6, .int .u64 r7, .int .i64 r8] 26)
            have X := X0.out.call HB2 hbB
            have Y := Y0.out.call HB2 hbB'
            refine hK.out _ _ ⟨X.1, X.2.1, X.2.2.1, X.2.2.2.1, X.2.2.2.2.1, X.2.2.2.2.2.1, X.2.2.2.2.2.2.1, X.2.2.2.2.2.2.2.1, X.2.2.2.2.2.2.2.2, Y⟩ (fun hHeld => ?_)
            clear hK K
            refine norm_ (a' := ?_) ?_ ?_
            rotate_left
            · show Act.put _ (some 40) _ = _
              simp only [Act.put, List.setIfInBounds_toArray, List.set_cons_zero, List.set_cons_succ]
              rfl
            refine one_ (i := 11) (N := some 41) #[true, true, true, true, true, true, true, true, true, true, true, true, false] rfl rfl (by kernel_rfl) (by decide) (fun K hK => ?_)
            refine step_appI (by rfl) (.tmp 30) (.tmp 40) (by rfl) w.heap.size v L (by rfl) O2.out (w1.heap.size + 1) ⟨w1.heap.size, 0, none⟩ 1 1 [⟨r0, ⟨r1, r2, r3, r4⟩, ⟨r5, r6, r7, r8⟩⟩] (by rfl) (SlI.lit1 (Blk.new w1 _ _) (by omega)) (by simp; omega) (by have := HB2.size; simp at this ⊢; omega) ?_
            intro v3 w3 O3 hg3 hat3
            have HB3 := HB2.grown hg3 HB2.size (fun k hk => (O.out.lt k hk).1)
            have X := X0.out.call HB3 hbB
            have Y := Y0.out.call HB3 hbB'
            refine hK.out _ _ ⟨X.1, X.2.1, X.2.2.1, X.2.2.2.1, X.2.2.2.2.1, X.2.2.2.2.2.1, X.2.2.2.2.2.2.1, X.2.2.2.2.2.2.2.1, X.2.2.2.2.2.2.2.2, Y⟩ (fun hHeld => ?_)
            clear hK K
            refine norm_ (a' := ?_) ?_ ?_
            rotate_left
            · show Act.put _ (some 41) _ = _
              simp only [Act.put, List.setIfInBounds_toArray, List.set_cons_zero, List.set_cons_succ]
              rfl
            refine pure_ (i := 12) (N := some 7) (v := ?_) (a' := ?_) #[true, true, true, true, true, true, true, true, true, true, true, true, true] rfl rfl (by kernel_rfl) (fun _ _ _ h => h) (Or.inl ⟨by rfl, ?_⟩) ?_ ?_
            rotate_left
            · intro w'
              go_simp
              with_reducible rfl
            rotate_left
            · simp only [Act.put, List.setIfInBounds_toArray, List.set_cons_zero, List.set_cons_succ]
              rfl
            refine done_ (by kernel_rfl) ?_
            clear hHeld X Y
            go_wp2_with fail
            go_roundw
            case rel => exact ⟨k + 1, by omega, by go_num, by rw [hT.out]; exact O3, HB3⟩
            case measure => simp [intOf]; omega
          · have hkn : k = n := by omega
            subst hkn
            rw [List.take_of_length_le (by rw [hs.1]; exact Nat.le_refl _), List.take_of_length_le (by rw [ht.1]; exact Nat.le_refl _)] at O
            have hl : (List.zipWith hull2 xs ys).length = k := by rw [List.length_zipWith, hs.1, ht.1, Nat.min_self]
            clear hs ht
            go_wp2
            go_ret
            exact ⟨_, rfl, O, HB⟩
      · rw [hp'] at HG
        clear hp hp'
        rw [if_neg (by decide), if_pos rfl]
        have HF := Lib.hid (fun W h => r14fair_calls A n c xs W h hn)
        go_enter Try.func37, Try.ntmps37
        go_wp2_with (first
          | (go_at_call 41; (with_reducible refine HE.out.mono ?_); rintro e w0 ⟨rfl, HBa⟩)
          | (go_at_call 41; (refine (HG.out _ (ht.on HBa)).mono ?_); rintro e w1 ⟨rfl, hb⟩; replace HB0 := bl_trans HBa hb; clear hb)
          | (go_at_call 39; (refine (HF.out _ (hs.on HB0)).mono ?_); rintro e w2 ⟨v, rfl, O1, hb⟩))
        go_ret
        exact ⟨_, rfl, O1.base HB0.size, bl_trans HB0 hb⟩
    · rw [hp] at HE
      rw [if_pos rfl]
      have HF := Lib.hid (fun W h => r14fair_calls B n d ys W h hn)
      generalize emptyB ys = q at HG
      clear hp
      go_enter Try.func37, Try.ntmps37
      go_wp2_with (first
        | (go_at_call 41; (with_reducible refine HE.out.mono ?_); rintro e w0 ⟨rfl, HBa⟩)
        | (go_at_call 41; (refine (HG.out _ (ht.on HBa)).mono ?_); rintro e w1 ⟨rfl, hb⟩; replace HB0 := bl_trans HBa hb; clear hb)
        | (go_at_call 39; (refine (HF.out _ (ht.on HB0)).mono ?_); rintro e w2 ⟨v, rfl, O1, hb⟩))
      go_ret
      exact ⟨_, rfl, O1.base HB0.size, bl_trans HB0 hb⟩
  · have hq : ((n : Int) != m) = true := by simp; omega
    rw [if_neg hnm]
    clear hs ht hnm
    go_enter Try.func37, Try.ntmps37
    go_wp2
    go_ret
    exact ⟨_, rfl, OwnI.nil _ _, HB0⟩
end Go.Proofs.Ytagojbgmgkkdpaa.Wk


/- Walk: peloruslaw14.BoxSets returns true, for every input. -/
namespace Go.Proofs.Ytagojbgmgkkdpaa.Wk
open Go.RowKit Go.Proofs.Pl Go.Proofs.YtagojbgmgkkdpaaW.PrintLast
set_option linter.unusedSimpArgs false
set_option linter.unusedVariables false

theorem meetB_le (xs ys : List Iv) : (meetB xs ys).length ≤ xs.length := by
  by_cases h : xs.length = ys.length
  · rw [meetB_len h]; exact Nat.le_refl _
  · unfold meetB; rw [if_neg h]; exact Nat.zero_le _
theorem hullB_le (xs ys : List Iv) : (hullB xs ys).length ≤ xs.length := by
  by_cases h : xs.length = ys.length
  · rw [hullB_len h]; exact Nat.le_refl _
  · unfold hullB; rw [if_neg h]; exact Nat.zero_le _
set_option maxRecDepth 100000 in
set_option maxHeartbeats 8000000 in
theorem boxSets_calls (A : Option Addr) (n c : Nat) (xs : List Iv) (B : Option Addr) (m d : Nat) (ys : List Iv) (P : Option Addr) (q f : Nat) (ps : List Num) (w : World) (hs : SlI w w.heap.size A n xs) (ht : SlI w w.heap.size B m ys) (hp : SlN w w.heap.size P q ps) (wx : ∀ x ∈ xs, WfIv x) (wy : ∀ x ∈ ys, WfIv x) (wp : ∀ x ∈ ps, Wf x) :
    Calls Try.prog 6 #[.slice A n c, .slice B m d, .slice P q f] w fun e w' => e = .returned (.bool true) ∧ Below w.heap.size w w' := by
  have HB0 := Below.refl w.heap.size w
  by_cases h1 : 20 < n
  · clear hs ht hp wx wy wp
    go_enter Try.func6, Try.ntmps6
    go_wp2_with (go_at_call 32; (refine (awake14_calls _).mono ?_); rintro e' w1 ⟨rfl, hb⟩; have HB1 := bl_trans HB0 hb; clear hb)
    go_ret
    exact ⟨rfl, HB1⟩
  by_cases h2 : 20 < m
  · clear hs ht hp wx wy wp
    go_enter Try.func6, Try.ntmps6
    go_wp2_with (go_at_call 32; (refine (awake14_calls _).mono ?_); rintro e' w1 ⟨rfl, hb⟩; have HB1 := bl_trans HB0 hb; clear hb)
    go_ret
    exact ⟨rfl, HB1⟩
  by_cases h3 : 20 < q
  · clear hs ht hp wx wy wp
    go_enter Try.func6, Try.ntmps6
    go_wp2_with (go_at_call 32; (refine (awake14_calls _).mono ?_); rintro e' w1 ⟨rfl, hb⟩; have HB1 := bl_trans HB0 hb; clear hb)
    go_ret
    exact ⟨rfl, HB1⟩
  have hn : n ≤ 1000 := by omega
  have hm : m ≤ 1000 := by omega
  have hq : q ≤ 1000 := by omega
  have HM := Lib.hid (fun W h g => meetB_calls A n c xs B m d ys W h g hn)
  have HM' := Lib.hid (fun W h g => r14meet_calls A n c xs B m d ys W h g hn)
  have l1 := Lib.hid (Nat.le_trans (meetB_le xs ys) (by rw [hs.1]; exact hn))
  have HH := Lib.hid (fun W h g => hullB_calls A n c xs B m d ys W h g hn)
  have HH' := Lib.hid (fun W h g => r14hull_calls A n c xs B m d ys W h g wx wy hn)
  have l2 := Lib.hid (Nat.le_trans (hullB_le xs ys) (by rw [hs.1]; exact hn))
  have HF := Lib.hid (fun W h => fairB_calls A n c xs W h hn)
  have HF' := Lib.hid (fun W h => r14fair_calls A n c xs W h hn)
  have l3 := Lib.hid (show (fairB xs).length ≤ 1000 by rw [fairB_len, hs.1]; exact hn)
  have HE := Lib.hid (fun W h => emptyB_calls A n c xs W h hn)
  have HE' := Lib.hid (fun W h => r14empty_calls A n c xs W h hn)
  have HA := Lib.hid (fun W h g => hasB_calls A n c xs P q f ps W h g hn hq)
  have HA' := Lib.hid (fun W h g => r14has_calls A n c xs P q f ps W h g wx wp hn hq)
  have HW := Lib.hid (fun W h g => withinB_calls A n c xs B m d ys W h g hn)
  have HW' := Lib.hid (fun W h g => r14within_calls A n c xs B m d ys W h g hn)
  generalize meetB xs ys = L1 at HM HM' l1
  generalize hullB xs ys = L2 at HH HH' l2
  generalize fairB xs = L3 at HF HF' l3
  generalize emptyB xs = p1 at HE HE'
  generalize hasL xs ps = p2 at HA HA'
  generalize withinB xs ys = p3 at HW HW'
  obtain ⟨k1, e1⟩ : ∃ k, L1.length = k := ⟨_, rfl⟩
  obtain ⟨k2, e2⟩ : ∃ k, L2.length = k := ⟨_, rfl⟩
  obtain ⟨k3, e3⟩ : ∃ k, L3.length = k := ⟨_, rfl⟩
  have HS1 := Lib.hid (fun A c B d W h g => r14same_calls A k1 c L1 B k1 d W h g (by rw [← e1]; exact l1.out))
  have HS2 := Lib.hid (fun A c B d W h g => r14same_calls A k2 c L2 B k2 d W h g (by rw [← e2]; exact l2.out))
  have HS3 := Lib.hid (fun A c B d W h g => r14same_calls A k3 c L3 B k3 d W h g (by rw [← e3]; exact l3.out))
  have E1 := Lib.hid e1
  have E2 := Lib.hid e2
  have E3 := Lib.hid e3
  have S := Lib.hid hs
  have T := Lib.hid ht
  have U := Lib.hid (fun W' (hb : Below w.heap.size w W') => (hp.below hb).more hb.size)
  clear hs ht hp wx wy wp l1 l2 l3 hn hm hq e1 e2 e3
  go_enter Try.func6, Try.ntmps6
  go_wp2_with (first
    | (go_at_call 32; (refine (awake14_calls _).mono ?_); rintro e' w1 ⟨rfl, hb⟩; have HB1 := bl_trans HB0 hb; clear hb)
    | (go_at_call 34; (refine (HM.out w1 (S.out.on HB1) (T.out.on HB1)).mono ?_); rintro e' w2 ⟨v2, rfl, O2, hb⟩; obtain ⟨A2, c2, rfl, S2⟩ := O2.sln E1.out; have S2 := Lib.hid S2; have HB2 := bl_trans HB1 hb; clear hb O2)
    | (go_at_call 35; (refine (HM'.out w2 (S.out.on HB2) (T.out.on HB2)).mono ?_); rintro e' w3 ⟨v3, rfl, O3, hb⟩; obtain ⟨A3, c3, rfl, S3⟩ := O3.sln E1.out; have S3 := Lib.hid S3; have HB3 := bl_trans HB2 hb; replace S2 := Lib.hid (S2.out.on hb); clear hb O3)
    | (go_at_call 36; (refine (HH.out w4 (S.out.on HB4) (T.out.on HB4)).mono ?_); rintro e' w5 ⟨v5, rfl, O5, hb⟩; obtain ⟨A5, c5, rfl, S5⟩ := O5.sln E2.out; have S5 := Lib.hid S5; have HB5 := bl_trans HB4 hb; clear hb O5)
    | (go_at_call 37; (refine (HH'.out w5 (S.out.on HB5) (T.out.on HB5)).mono ?_); rintro e' w6 ⟨v6, rfl, O6, hb⟩; obtain ⟨A6, c6, rfl, S6⟩ := O6.sln E2.out; have S6 := Lib.hid S6; have HB6 := bl_trans HB5 hb; replace S5 := Lib.hid (S5.out.on hb); clear hb O6)
    | (go_at_call 38; (refine (HF.out w7 (S.out.on HB7)).mono ?_); rintro e' w8 ⟨v8, rfl, O8, hb⟩; obtain ⟨A8, c8, rfl, S8⟩ := O8.sln E3.out; have S8 := Lib.hid S8; have HB8 := bl_trans HB7 hb; clear hb O8)
    | (go_at_call 39; (refine (HF'.out w8 (S.out.on HB8)).mono ?_); rintro e' w9 ⟨v9, rfl, O9, hb⟩; obtain ⟨A9, c9, rfl, S9⟩ := O9.sln E3.out; have S9 := Lib.hid S9; have HB9 := bl_trans HB8 hb; replace S8 := Lib.hid (S8.out.on hb); clear hb O9)
    | (go_at_call 33; first
      | ((with_reducible refine (HS1.out A2 c2 A3 c3 w3 S2.out S3.out).mono ?_); rintro e' w4 ⟨rfl, hb⟩; have HB4 := bl_trans HB3 hb; clear hb S2 S3)
      | ((with_reducible refine (HS2.out A5 c5 A6 c6 w6 S5.out S6.out).mono ?_); rintro e' w7 ⟨rfl, hb⟩; have HB7 := bl_trans HB6 hb; clear hb S5 S6)
      | ((with_reducible refine (HS3.out A8 c8 A9 c9 w9 S8.out S9.out).mono ?_); rintro e' w10 ⟨rfl, hb⟩; have HB10 := bl_trans HB9 hb; clear hb S8 S9))
    | (go_at_call 40; (refine (HE.out w10 (S.out.on HB10)).mono ?_); rintro e' w11 ⟨rfl, hb⟩; have HB11 := bl_trans HB10 hb; clear hb)
    | (go_at_call 41; (refine (HE'.out w11 (S.out.on HB11)).mono ?_); rintro e' w12 ⟨rfl, hb⟩; have HB12 := bl_trans HB11 hb; clear hb)
    | (go_at_call 42; (refine (HA.out w12 (S.out.on HB12) (U.out _ HB12)).mono ?_); rintro e' w13 ⟨rfl, hb⟩; have HB13 := bl_trans HB12 hb; clear hb)
    | (go_at_call 43; (refine (HA'.out w13 (S.out.on HB13) (U.out _ HB13)).mono ?_); rintro e' w14 ⟨rfl, hb⟩; have HB14 := bl_trans HB13 hb; clear hb)
    | (go_at_call 44; (refine (HW.out w14 (S.out.on HB14) (T.out.on HB14)).mono ?_); rintro e' w15 ⟨rfl, hb⟩; have HB15 := bl_trans HB14 hb; clear hb)
    | (go_at_call 45; (refine (HW'.out w15 (S.out.on HB15) (T.out.on HB15)).mono ?_); rintro e' w16 ⟨rfl, hb⟩; have HB16 := bl_trans HB15 hb; clear hb))
  go_ret
  exact ⟨rfl, HB16⟩
end Go.Proofs.Ytagojbgmgkkdpaa.Wk

