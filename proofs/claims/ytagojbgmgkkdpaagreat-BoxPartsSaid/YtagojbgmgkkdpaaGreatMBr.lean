import Derived.Test.YtagojbgmgkkdpaaGreatMBc
import Derived.Test.YtagojbgmgkkdpaaGreatMBd
import Derived.Test.YtagojbgmgkkdpaaGreatMRa
import Derived.Test.YtagojbgmgkkdpaaGreatMR5
import Derived.Test.YtagojbgmgkkdpaaGreatMR8
/- Walks: the reference's Empty, Same of boxes. -/
namespace Go.Proofs.YtagojbgmgkkdpaaGreat.Wk
open Go.RowKit Go.Proofs.Pl Go.Proofs.YtagojbgmgkkdpaaGreatW.PrintLast
set_option linter.unusedSimpArgs false
set_option linter.unusedVariables false

theorem emptyB_first (xs : List Iv) (h : ∀ (j : Nat) (x : Iv), j < xs.length → xs[j]? = some x → noneB x = false) : emptyB xs = false := by
  unfold emptyB
  rw [List.any_eq_false]
  intro x hx
  obtain ⟨j, hj⟩ := List.getElem?_of_mem hx
  rw [h j x (List.getElem?_eq_some_iff.1 hj).1 hj]
  simp
set_option maxRecDepth 100000 in
set_option maxHeartbeats 4000000 in
theorem r14empty_calls (A : Option Addr) (n c : Nat) (xs : List Iv) (w : World) (hs : SlI w w.heap.size A n xs) (hn : n ≤ 1000) :
    Calls Tryz.prog 26 #[.slice A n c] w fun e w' => e = .returned (.bool (emptyB xs)) ∧ Below w.heap.size w w' := by
  go_enter Tryz.func26, Tryz.ntmps26
  go_wp2
  go_loopw [3, 4] (fun i _ wr => ∃ k : Nat, k ≤ n ∧ i = .int .i64 k ∧ (∀ (j : Nat) (x : Iv), j < k → xs[j]? = some x → noneB x = false) ∧ Below w.heap.size w wr) (fun i _ _ => n - (intOf i).toNat)
  case atStart => exact ⟨0, Nat.zero_le _, rfl, fun j x hj => absurd hj (Nat.not_lt_zero _), Below.refl _ _⟩
  case round =>
    obtain ⟨k, hk, rfl, hall, HB⟩ := hrel
    have Hall := Lib.hid hall
    clear hall
    by_cases hlt : k < n
    · obtain ⟨b, off, x, rfl, hbB, hx, e0, e1, e2, e3, e4, e5, e6, e7, e8⟩ := (hs.below HB).at_ hlt
      have Hx := Lib.hid hx
      have Hs := Lib.hid hs
      clear hx hs
      have Hp := Lib.hid (noneB_fair x)
      obtain ⟨x0, ⟨x1, x2, x3, x4⟩, ⟨x5, x6, x7, x8⟩⟩ := x
      have HO := Lib.hid (fun W => r8fair_calls x0 x1 x2 x3 x4 x5 x6 x7 x8 W)
      generalize fairI ⟨x0, ⟨x1, x2, x3, x4⟩, ⟨x5, x6, x7, x8⟩⟩ = f at HO Hp
      obtain ⟨f0, ⟨f1, f2, f3, f4⟩, ⟨f5, f6, f7, f8⟩⟩ := f
      dsimp only at HO Hp
      cases f0
      · go_wp2_with fail
        refine (HO.out _).mono ?_
        rintro e w1 ⟨rfl, hb⟩
        have HB1 := bl_alloc (bl_trans HB hb) (.cells #[.bool false, .int .i64 f1, .bool f2, .int .u64 f3, .int .i64 f4, .int .i64 f5, .bool f6, .int .u64 f7, .int .i64 f8] 39)
        have BF := Blk.new w1 39 #[.bool false, .int .i64 f1, .bool f2, .int .u64 f3, .int .i64 f4, .int .i64 f5, .bool f6, .int .u64 f7, .int .i64 f8]
        have t0 := BF.cell 0
        clear hb BF
        go_wp2
        go_roundw
        case rel =>
          refine ⟨k + 1, by omega, by go_num, fun j y hj hy => ?_, HB1⟩
          by_cases e : j = k
          · subst e
            rw [Hx.out] at hy
            cases hy
            exact Hp.out
          · exact Hall.out j y (by omega) hy
        case measure => simp [intOf]; omega
      · go_wp2_with fail
        refine (HO.out _).mono ?_
        rintro e w1 ⟨rfl, hb⟩
        have HB1 := bl_alloc (bl_trans HB hb) (.cells #[.bool true, .int .i64 f1, .bool f2, .int .u64 f3, .int .i64 f4, .int .i64 f5, .bool f6, .int .u64 f7, .int .i64 f8] 39)
        have BF := Blk.new w1 39 #[.bool true, .int .i64 f1, .bool f2, .int .u64 f3, .int .i64 f4, .int .i64 f5, .bool f6, .int .u64 f7, .int .i64 f8]
        have t0 := BF.cell 0
        clear hb BF
        go_wp2
        go_ret
        have hE : emptyB xs = true := by
          unfold emptyB
          rw [List.any_eq_true]
          exact ⟨_, List.mem_of_getElem? Hx.out, Hp.out⟩
        rw [hE]
        exact ⟨rfl, HB1⟩
    · have hkn : k = n := by omega
      subst hkn
      go_wp2
      go_ret
      rw [emptyB_first xs (fun j x hj hx => Hall.out j x (by have := hs.1; omega) hx)]
      exact ⟨rfl, HB⟩

def N9 (W : World) (b o : Nat) (x : Iv) : Prop := W.cell? ⟨b, o, none⟩ = some (.bool x.emp) ∧ W.cell? ⟨b, o + 1, none⟩ = some (.int .i64 x.lo.k) ∧ W.cell? ⟨b, o + 2, none⟩ = some (.bool x.lo.n) ∧ W.cell? ⟨b, o + 3, none⟩ = some (.int .u64 x.lo.m) ∧ W.cell? ⟨b, o + 4, none⟩ = some (.int .i64 x.lo.e) ∧ W.cell? ⟨b, o + 5, none⟩ = some (.int .i64 x.hi.k) ∧ W.cell? ⟨b, o + 6, none⟩ = some (.bool x.hi.n) ∧ W.cell? ⟨b, o + 7, none⟩ = some (.int .u64 x.hi.m) ∧ W.cell? ⟨b, o + 8, none⟩ = some (.int .i64 x.hi.e)
def N4 (W : World) (b o : Nat) (x : Num) : Prop := W.cell? ⟨b, o, none⟩ = some (.int .i64 x.k) ∧ W.cell? ⟨b, o + 1, none⟩ = some (.bool x.n) ∧ W.cell? ⟨b, o + 2, none⟩ = some (.int .u64 x.m) ∧ W.cell? ⟨b, o + 3, none⟩ = some (.int .i64 x.e)
theorem N9.call {W W' : World} {b o : Nat} {x : Iv} (h : N9 W b o x) (hb : Below W.heap.size W W') (hl : b < W.heap.size) : N9 W' b o x := by
  unfold N9 at h ⊢
  have hc : ∀ k, W'.cell? ⟨b, k, none⟩ = W.cell? ⟨b, k, none⟩ := fun k => hb.cell (p := ⟨b, k, none⟩) hl
  simp only [hc]
  exact h
theorem N4.call {W W' : World} {b o : Nat} {x : Num} (h : N4 W b o x) (hb : Below W.heap.size W W') (hl : b < W.heap.size) : N4 W' b o x := by
  unfold N4 at h ⊢
  have hc : ∀ k, W'.cell? ⟨b, k, none⟩ = W.cell? ⟨b, k, none⟩ := fun k => hb.cell (p := ⟨b, k, none⟩) hl
  simp only [hc]
  exact h
theorem N9.drew {W : World} {b o : Nat} {x : Iv} (h : N9 W b o x) : N9 W.drew b o x := h
theorem N4.drew {W : World} {b o : Nat} {x : Num} (h : N4 W b o x) : N4 W.drew b o x := h
theorem SlI.n9 {w : World} {B n : Nat} {A : Option Addr} {xs : List Iv} (h : SlI w B A n xs) {k : Nat} (hk : k < n) : ∃ b off x, A = some ⟨b, off, none⟩ ∧ b < B ∧ xs[k]? = some x ∧ N9 w b (off + k * 9) x := by
  obtain ⟨b, off, x, e, hb, hx, h9⟩ := h.at_ hk
  exact ⟨b, off, x, e, hb, hx, h9⟩
theorem SlN.n4 {w : World} {B n : Nat} {A : Option Addr} {xs : List Num} (h : SlN w B A n xs) {k : Nat} (hk : k < n) : ∃ b off x, A = some ⟨b, off, none⟩ ∧ b < B ∧ xs[k]? = some x ∧ N4 w b (off + k * 4) x := by
  obtain ⟨b, off, x, e, hb, hx, h9⟩ := h.at_ hk
  exact ⟨b, off, x, e, hb, hx, h9⟩
set_option maxRecDepth 100000 in
set_option maxHeartbeats 4000000 in
/-- two boxes of the same intervals are the same -/
theorem r14same_calls (A : Option Addr) (n c : Nat) (xs : List Iv) (B : Option Addr) (m d : Nat) (w : World) (hs : SlI w w.heap.size A n xs) (ht : SlI w w.heap.size B m xs) (hn : n ≤ 1000) :
    Calls Tryz.prog 9 #[.slice A n c, .slice B m d] w fun e w' => e = .returned (.bool true) ∧ Below w.heap.size w w' := by
  have HB0 := Below.refl w.heap.size w
  obtain rfl : n = m := by rw [← hs.1, ht.1]
  have hq : ((n : Int) != n) = false := by simp
  go_enter Tryz.func9, Tryz.ntmps9
  go_wp2
  go_loopw [5] (fun i wr => ∃ k : Nat, k ≤ n ∧ i = .int .i64 k ∧ Below w.heap.size w wr) (fun i _ => n - (intOf i).toNat)
  case atStart => exact ⟨0, Nat.zero_le _, rfl, HB0⟩
  case round =>
    obtain ⟨k, hk, rfl, HB⟩ := hrel
    by_cases hlt : k < n
    · obtain ⟨b, off, x, rfl, hbB, hx, X⟩ := (hs.below HB).n9 hlt
      obtain ⟨b', off', y, rfl, hbB', hy, Y⟩ := (ht.below HB).n9 hlt
      obtain rfl : x = y := by rw [hx] at hy; cases hy; rfl
      clear hx hy hs ht
      obtain ⟨x0, ⟨x1, x2, x3, x4⟩, ⟨x5, x6, x7, x8⟩⟩ := x
      have e4 := fun W => run_neIv W x0 x0 x1 x1 x2 x2 x3 x3 x4 x4 x5 x5 x6 x6 x7 x7 x8 x8
      rw [decide_eq_true rfl] at e4
      have X := X.drew
      have Y := Y.drew
      go_wp2_with fail
      refine start_ (n := 9) (S := fun w' => w'.cell? ⟨b, off + k * 9, none⟩ = some (.bool x0) ∧ w'.cell? ⟨b, off + k * 9 + 1, none⟩ = some (.int .i64 x1) ∧ w'.cell? ⟨b, off + k * 9 + 2, none⟩ = some (.bool x2) ∧ w'.cell? ⟨b, off + k * 9 + 3, none⟩ = some (.int .u64 x3) ∧ w'.cell? ⟨b, off + k * 9 + 4, none⟩ = some (.int .i64 x4) ∧ w'.cell? ⟨b, off + k * 9 + 5, none⟩ = some (.int .i64 x5) ∧ w'.cell? ⟨b, off + k * 9 + 6, none⟩ = some (.bool x6) ∧ w'.cell? ⟨b, off + k * 9 + 7, none⟩ = some (.int .u64 x7) ∧ w'.cell? ⟨b, off + k * 9 + 8, none⟩ = some (.int .i64 x8) ∧ w'.cell? ⟨b', off' + k * 9, none⟩ = some (.bool x0) ∧ w'.cell? ⟨b', off' + k * 9 + 1, none⟩ = some (.int .i64 x1) ∧ w'.cell? ⟨b', off' + k * 9 + 2, none⟩ = some (.bool x2) ∧ w'.cell? ⟨b', off' + k * 9 + 3, none⟩ = some (.int .u64 x3) ∧ w'.cell? ⟨b', off' + k * 9 + 4, none⟩ = some (.int .i64 x4) ∧ w'.cell? ⟨b', off' + k * 9 + 5, none⟩ = some (.int .i64 x5) ∧ w'.cell? ⟨b', off' + k * 9 + 6, none⟩ = some (.bool x6) ∧ w'.cell? ⟨b', off' + k * 9 + 7, none⟩ = some (.int .u64 x7) ∧ w'.cell? ⟨b', off' + k * 9 + 8, none⟩ = some (.int .i64 x8)) (ds := []) (bq 9 0) (by kernel_rfl) rfl rfl ⟨X.1, X.2.1, X.2.2.1, X.2.2.2.1, X.2.2.2.2.1, X.2.2.2.2.2.1, X.2.2.2.2.2.2.1, X.2.2.2.2.2.2.2.1, X.2.2.2.2.2.2.2.2, Y⟩ (fun hHeld => ?_)
      refine pure_ (i := 0) (N := some 17) (v := ?_) (a' := ?_) (bq 9 1) rfl rfl (by kernel_rfl) (fun _ _ _ h => h) (Or.inl ⟨by rfl, ?_⟩) ?_ ?_
      rotate_left
      · intro w'
        go_simp
        with_reducible rfl
      rotate_left
      · simp only [Act.put, pA, pB, pC]
        rfl
      refine pure_ (i := 1) (N := some 18) (v := ?_) (a' := ?_) (bq 9 3) rfl rfl (by kernel_rfl) (fun _ _ _ h => h) (Or.inl ⟨by rfl, ?_⟩) ?_ ?_
      rotate_left
      · intro w'
        go_simp
        with_reducible rfl
      rotate_left
      · simp only [Act.put, pA, pB, pC]
        rfl
      refine pure_ (i := 2) (N := some 19) (v := ?_) (a' := ?_) (bq 9 7) rfl rfl (by kernel_rfl) (fun _ _ _ h => h) (Or.inl ⟨by rfl, ?_⟩) ?_ ?_
      rotate_left
      · intro w'
        go_simp
        with_reducible rfl
      rotate_left
      · simp only [Act.put, pA, pB, pC]
        rfl
      refine take_ (i := 3) (N := some 20) (v := ?_) (a' := ?_) (bq 9 15) rfl rfl (by kernel_rfl) (fun _ _ _ h => h) (Or.inl ⟨by rfl, ?_⟩) hHeld ?_ ?_
      rotate_left
      · rintro w' ⟨s0_, s1_, s2_, s3_, s4_, s5_, s6_, s7_, s8_, s9_, s10_, s11_, s12_, s13_, s14_, s15_, s16_, s17_⟩
        go_simp
        with_reducible rfl
      rotate_left
      · simp only [Act.put, pA, pB, pC]
        rfl
      refine pure_ (i := 4) (N := some 21) (v := ?_) (a' := ?_) (bq 9 31) rfl rfl (by kernel_rfl) (fun _ _ _ h => h) (Or.inl ⟨by rfl, ?_⟩) ?_ ?_
      rotate_left
      · intro w'
        go_simp
        with_reducible rfl
      rotate_left
      · simp only [Act.put, pA, pB, pC]
        rfl
      refine pure_ (i := 5) (N := some 22) (v := ?_) (a' := ?_) (bq 9 63) rfl rfl (by kernel_rfl) (fun _ _ _ h => h) (Or.inl ⟨by rfl, ?_⟩) ?_ ?_
      rotate_left
      · intro w'
        go_simp
        with_reducible rfl
      rotate_left
      · simp only [Act.put, pA, pB, pC]
        rfl
      refine pure_ (i := 6) (N := some 23) (v := ?_) (a' := ?_) (bq 9 127) rfl rfl (by kernel_rfl) (fun _ _ _ h => h) (Or.inl ⟨by rfl, ?_⟩) ?_ ?_
      rotate_left
      · intro w'
        go_simp
        with_reducible rfl
      rotate_left
      · simp only [Act.put, pA, pB, pC]
        rfl
      refine take_ (i := 7) (N := some 24) (v := ?_) (a' := ?_) (bq 9 255) rfl rfl (by kernel_rfl) (fun _ _ _ h => h) (Or.inl ⟨by rfl, ?_⟩) hHeld ?_ ?_
      rotate_left
      · rintro w' ⟨s0_, s1_, s2_, s3_, s4_, s5_, s6_, s7_, s8_, s9_, s10_, s11_, s12_, s13_, s14_, s15_, s16_, s17_⟩
        go_simp
        with_reducible rfl
      rotate_left
      · simp only [Act.put, pA, pB, pC]
        rfl
      refine pure_ (i := 8) (N := some 25) (v := ?_) (a' := ?_) (bq 9 511) rfl rfl (by kernel_rfl) (fun _ _ _ h => h) (Or.inl ⟨by rfl, ?_⟩) ?_ ?_
      rotate_left
      · intro w'
        go_simp
        with_reducible rfl
      rotate_left
      · simp only [Act.put, pA, pB, pC]
        rfl
      refine done_ (by kernel_rfl) ?_
      clear hHeld X Y
      go_wp2
      go_roundw
      case rel => exact ⟨k + 1, by omega, by go_num, bl_trans HB (bl_drew (Below.refl _ _))⟩
      case measure => simp [intOf]; omega
    · have hkn : k = n := by omega
      subst hkn
      clear hs ht
      go_wp2
      go_ret
      exact ⟨rfl, HB⟩
end Go.Proofs.YtagojbgmgkkdpaaGreat.Wk

/- Walks: the reference's Fair of boxes. -/
namespace Go.Proofs.YtagojbgmgkkdpaaGreat.Wk
open Go.RowKit Go.Proofs.Pl Go.Proofs.YtagojbgmgkkdpaaGreatW.PrintLast
set_option linter.unusedSimpArgs false
set_option linter.unusedVariables false

theorem step_appI {w : World} {ops : Array Oper} {o : Oper} {a : Act} {K : Act → World → Prop} {Q : Exit → Act → World → Prop} {E : Prop} (hgd : o.guard = none) (s x : Operand) (ho : o.op = .call { callee := .builtin .append, args := #[s, x], argTypes := #[22, 22] }) (base : Nat) (v : Value) (xs : List Iv) (hs : a.eval s = v) (hown : OwnI w base v xs) (B : Nat) (A : Addr) (m c : Nat) (ys : List Iv) (hx : a.eval x = .slice (some A) m c) (hys : SlI w B (some A) m ys) (hsm : xs.length + m ≤ 1000000) (hbase : base ≤ w.heap.size)
    (h : ∀ v' w', OwnI w' base v' (xs ++ ys) → w.grownBy w' v.ownBlock → (v'.ownBlock = v.ownBlock ∨ v'.ownBlock = some w.heap.size) → K (a.put o.dst v') w') : if Region.wanted o (yielded ops a.tmps) = true then Oper.wp Tryz.prog o a w K Q else E := by
  have hw : Region.wanted o (yielded ops a.tmps) = true := by simp [Region.wanted, hgd]
  rw [if_pos hw]
  obtain ⟨v', w', hr, h1, h2, h3⟩ := run_appI base v xs hown o.type B A m c ys hys hsm hbase
  unfold Oper.wp execOp
  simp only [ho, resolve, invoke, builtin, Sem.run_bind, Sem.run_pure, Result.andThen_ok, List.map_toArray, List.map_cons, List.map_nil, hs, hx, hr]
  exact h _ _ h1 h2 h3
theorem take_snoc {xs : List Iv} {k : Nat} {x : Iv} (h : xs[k]? = some x) : xs.take (k + 1) = xs.take k ++ [x] := by
  rw [List.take_add_one, h]; rfl
set_option maxRecDepth 100000 in
set_option maxHeartbeats 4000000 in
theorem r14fair_calls (A : Option Addr) (n c : Nat) (xs : List Iv) (w : World) (hs : SlI w w.heap.size A n xs) (hn : n ≤ 1000) :
    Calls Tryz.prog 23 #[.slice A n c] w fun e w' => ∃ v, e = .returned v ∧ OwnI w' w.heap.size v (fairB xs) ∧ Below w.heap.size w w' := by
  have HE := Lib.hid (r14empty_calls A n c xs w hs hn)
  unfold fairB
  rw [hs.1]
  generalize emptyB xs = p at HE ⊢
  cases p
  · rw [if_neg (by decide)]
    go_enter Tryz.func23, Tryz.ntmps23
    go_wp2_with (go_at_call 26; (refine HE.out.mono ?_); rintro e w0 ⟨rfl, HB0⟩)
    go_loopw [4, 5, 6] (fun v i _ wr => ∃ k : Nat, k ≤ n ∧ i = .int .i64 k ∧ OwnI wr w.heap.size v (xs.take k) ∧ Below w.heap.size w wr) (fun _ i _ _ => n - (intOf i).toNat)
    case atStart => exact ⟨0, Nat.zero_le _, rfl, OwnI.nil _ _, HB0⟩
    case round =>
      obtain ⟨k, hk, rfl, O, HB⟩ := hrel
      clear HE
      by_cases hlt : k < n
      · obtain ⟨b, off, x, rfl, hbB, hx, X⟩ := (hs.below HB).n9 hlt
        have hT := Lib.hid (take_snoc hx)
        have hL : (xs.take k).length ≤ 1000 := by rw [List.length_take]; omega
        generalize xs.take k = L at O hT hL
        clear hx hs HB0
        obtain ⟨x0, ⟨x1, x2, x3, x4⟩, ⟨x5, x6, x7, x8⟩⟩ := x
        have O := Lib.hid O
        dsimp only [N9] at X
        go_wp2_with (at_builtin; refine wpList_appI rfl (.tmp 21) (.tmp 23) rfl w.heap.size _ L rfl ((O.out.alloc _).alloc _) (wr.heap.size + 2) ⟨wr.heap.size + 1, 0, none⟩ 1 1 [⟨x0, ⟨x1, x2, x3, x4⟩, ⟨x5, x6, x7, x8⟩⟩] rfl (SlI.lit1 (Blk.new1 wr _ _ _) (by omega)) (by simp; omega) (by have := HB.size; simp; omega) ?_; intro v3 w3 O3 hg3 hat3)
        refine ⟨⟨k + 1, by omega, by go_num, by rw [hT.out]; exact O3, ((HB.alloc HB.size _).alloc (by have := HB.size; simp; omega) _).grown hg3 (by have := HB.size; simp; omega) (fun k hk => (O.out.lt k hk).1)⟩, by simp [intOf]; omega⟩
      · have hkn : k = n := by omega
        subst hkn
        have hl : xs.take k = xs := List.take_of_length_le (by rw [hs.1]; exact Nat.le_refl _)
        rw [hl] at O
        clear hs hl
        go_wp2
        go_ret
        exact ⟨_, rfl, O, HB⟩
  · rw [if_pos rfl]
    have HN := Lib.hid r8none_calls
    go_enter Tryz.func23, Tryz.ntmps23
    go_wp2_with (go_at_call 26; (refine HE.out.mono ?_); rintro e w0 ⟨rfl, HB0⟩)
    go_loopw [4, 5, 6] (fun v i _ wr => ∃ k : Nat, k ≤ n ∧ i = .int .i64 k ∧ OwnI wr w.heap.size v (List.replicate k noneI) ∧ Below w.heap.size w wr) (fun _ i _ _ => n - (intOf i).toNat)
    case atStart => exact ⟨0, Nat.zero_le _, rfl, OwnI.nil _ _, HB0⟩
    case round =>
      obtain ⟨k, hk, rfl, O, HB⟩ := hrel
      clear HE
      by_cases hlt : k < n
      · obtain ⟨b, off, x, rfl, hbB, hx, X⟩ := (hs.below HB).n9 hlt
        have hT : Hid (List.replicate (k + 1) noneI = List.replicate k noneI ++ [noneI]) := Lib.hid (by rw [List.replicate_succ'])
        have hL : (List.replicate k noneI).length ≤ 1000 := by rw [List.length_replicate]; omega
        generalize List.replicate k noneI = L at O hT hL
        clear hx hs HB0
        obtain ⟨x0, ⟨x1, x2, x3, x4⟩, ⟨x5, x6, x7, x8⟩⟩ := x
        have O := Lib.hid O
        dsimp only [N9] at X
        generalize hz : noneI = z at HN hT
        have hz := Lib.hid hz
        obtain ⟨z0, ⟨z1, z2, z3, z4⟩, ⟨z5, z6, z7, z8⟩⟩ := z
        dsimp only at HN
        go_wp2_with (first
          | (go_at_call 47; (refine (HN.out _).mono ?_); rintro e w1 ⟨rfl, hb⟩; have HB1 := bl_trans (bl_alloc HB (.cells #[.bool x0, .int .i64 x1, .bool x2, .int .u64 x3, .int .i64 x4, .int .i64 x5, .bool x6, .int .u64 x7, .int .i64 x8] 39)) hb; have O1 := Lib.hid ((O.out.alloc (.cells #[.bool x0, .int .i64 x1, .bool x2, .int .u64 x3, .int .i64 x4, .int .i64 x5, .bool x6, .int .u64 x7, .int .i64 x8] 39)).call hb); have BX := Lib.hid ((Blk.new wr 39 #[.bool x0, .int .i64 x1, .bool x2, .int .u64 x3, .int .i64 x4, .int .i64 x5, .bool x6, .int .u64 x7, .int .i64 x8]).call hb); clear hb)
          | (refine wpList_stG rfl 39 (.tmp 6) (.tmp 20) rfl wr.heap.size _ #[.bool z0, .int .i64 z1, .bool z2, .int .u64 z3, .int .i64 z4, .int .i64 z5, .bool z6, .int .u64 z7, .int .i64 z8] BX.out rfl rfl (by kernel_rfl) rfl (by simp [Value.oneCell']) ?_; intro W2 X2 P2; have HB2 := P2.bel HB1 HB.size; have O2 := Lib.hid (O1.out.put P2 (fun k hk => by have := (O.out.lt k hk).2; omega)); obtain ⟨⟨q0, q1, q2, q3, q4, q5, q6, q7, q8⟩, _⟩ := X2.c9; clear X2 P2)
          | (at_builtin; refine wpList_appI rfl (.tmp 21) (.tmp 23) rfl w.heap.size _ L rfl (O2.out.alloc _) (W2.heap.size + 1) ⟨W2.heap.size, 0, none⟩ 1 1 [⟨z0, ⟨z1, z2, z3, z4⟩, ⟨z5, z6, z7, z8⟩⟩] rfl (SlI.lit1 (Blk.new W2 _ _) (by omega)) (by simp; omega) (by have := HB2.size; simp; omega) ?_; intro v3 w3 O3 hg3 hat3))
        refine ⟨⟨k + 1, by omega, by go_num, by rw [hT.out]; exact O3, (HB2.alloc HB2.size _).grown hg3 (by have := HB2.size; simp; omega) (fun k hk => (O.out.lt k hk).1)⟩, by simp [intOf]; omega⟩
      · have hkn : k = n := by omega
        subst hkn
        clear hs
        go_wp2
        go_ret
        exact ⟨_, rfl, O, HB⟩
end Go.Proofs.YtagojbgmgkkdpaaGreat.Wk

/- Walks: the reference's Widest, Split of boxes; Few of a box. -/
namespace Go.Proofs.YtagojbgmgkkdpaaGreat.Wk
open Go.RowKit Go.Proofs.Pl Go.Proofs.YtagojbgmgkkdpaaGreatW.PrintLast
set_option linter.unusedSimpArgs false
set_option linter.unusedVariables false

def FewB (b : List Iv) : Prop := ∀ x ∈ b, FewE x.lo 1500 ∧ FewE x.hi 1500
theorem bestN_one (xs : List Iv) : bestN xs 1 = 0 := by
 show (if 0 < cmpN (widthI (ivAt xs 0)) (widthI (ivAt xs (bestN xs 0))) then 0 else bestN xs 0) = 0
 have : bestN xs 0 = 0 := rfl
 rw [this]
 split <;> rfl
set_option maxRecDepth 100000 in
set_option maxHeartbeats 4000000 in
theorem r14widest_calls (A : Option Addr) (n c : Nat) (xs : List Iv) (w : World) (hs : SlI w w.heap.size A n xs) (hw : ∀ x ∈ xs, WfIv x) (hf : FewB xs) (hn : n ≤ 1000) :
  Calls Tryz.prog 11 #[.slice A n c] w fun e w' => e = .returned (.int .i64 (widestB xs)) ∧ Below w.heap.size w w' := by
 have HE := Lib.hid (r14empty_calls A n c xs w hs hn)
 unfold widestB
 rw [hs.1]
 cases hp : emptyB xs
 ·rw [hp] at HE
  by_cases h0 : n = 0
  ·subst h0
   rw [if_pos (.inr rfl)]
   clear hs
   go_enter Tryz.func11, Tryz.ntmps11
   go_wp2_with (go_at_call 26; (refine HE.out.mono ?_); rintro e' w1 ⟨rfl, hb1⟩)
   go_ret
   exact ⟨rfl, hb1⟩
  ·rw [if_neg (by simp [h0])]
   have h0' : ((n : Int) == 0) = false := by simp; omega
   clear hp
   go_enter Tryz.func11, Tryz.ntmps11
   go_wp2_with (go_at_call 26; (refine HE.out.mono ?_); rintro e' w1 ⟨rfl, hb1⟩)
   go_loopw [4, 5] (fun best i wr => ∃ k : Nat, 1 ≤ k ∧ k ≤ n ∧ i = .int .i64 k ∧ best = .int .i64 (bestN xs k) ∧ Below w.heap.size w wr) (fun _ i _ => n - (intOf i).toNat)
   case atStart => exact ⟨1, Nat.le_refl _, by omega, rfl, by rw [bestN_one]; rfl, hb1⟩
   case round =>
    obtain ⟨k, hk1, hk, rfl, rfl, HB⟩ := hrel
    by_cases hlt : k < n
    ·have hq : bestN xs k < n := by
      have := bestN_lt xs k
      omega
     have hstep : bestN xs (k + 1) = if 0 < cmpN (widthI (ivAt xs k)) (widthI (ivAt xs (bestN xs k))) then k else bestN xs k := rfl
     generalize bestN xs k = q at hq hstep
     obtain ⟨b, off, x, rfl, hbB, hx, X⟩ := (hs.below HB).n9 hlt
     obtain ⟨b', off', z, hbo, _, hz, Z⟩ := (hs.below HB).n9 hq
     cases hbo
     rw [ivAt_of hx, ivAt_of hz] at hstep
     have wx := hw x (List.mem_of_getElem? hx)
     have wz := hw z (List.mem_of_getElem? hz)
     obtain ⟨fx1, fx2⟩ := hf x (List.mem_of_getElem? hx)
     obtain ⟨fz1, fz2⟩ := hf z (List.mem_of_getElem? hz)
     replace hs := Lib.hid hs
     clear hx hz hw hf
     obtain ⟨x0, ⟨x1, x2, x3, x4⟩, ⟨x5, x6, x7, x8⟩⟩ := x
     obtain ⟨z0, ⟨z1, z2, z3, z4⟩, ⟨z5, z6, z7, z8⟩⟩ := z
     have HW1 := Lib.hid (fun W => r8width_calls x0 x1 x2 x3 x4 x5 x6 x7 x8 W wx fx1 fx2)
     have HW2 := Lib.hid (fun W => r8width_calls z0 z1 z2 z3 z4 z5 z6 z7 z8 W wz fz1 fz2)
     generalize widthI ⟨x0, ⟨x1, x2, x3, x4⟩, ⟨x5, x6, x7, x8⟩⟩ = f at HW1 hstep
     generalize widthI ⟨z0, ⟨z1, z2, z3, z4⟩, ⟨z5, z6, z7, z8⟩⟩ = h at HW2 hstep
     obtain ⟨f0, f1, f2, f3⟩ := f
     obtain ⟨h0, h1, h2, h3⟩ := h
     have HC := Lib.hid (fun W => rcmpN_calls f0 f1 f2 f3 h0 h1 h2 h3 W)
     generalize cmpN ⟨f0, f1, f2, f3⟩ ⟨h0, h1, h2, h3⟩ = r at HC hstep
     dsimp only at HW1 HW2
     replace hstep := Lib.hid hstep
     clear wx wz fx1 fx2 fz1 fz2
     have hbl : b < wr.heap.size := Nat.lt_of_lt_of_le hbB HB.size
     go_wp2_with fail
     replace HB := bl_drew HB
     replace X := X.drew
     replace Z := Z.drew
     replace hbl : b < wr.drew.heap.size := hbl
     refine start_ (n := 12) (S := fun w' => w'.cell? ⟨b, off + k * 9, none⟩ = some (.bool x0) ∧ w'.cell? ⟨b, off + k * 9 + 1, none⟩ = some (.int .i64 x1) ∧ w'.cell? ⟨b, off + k * 9 + 2, none⟩ = some (.bool x2) ∧ w'.cell? ⟨b, off + k * 9 + 3, none⟩ = some (.int .u64 x3) ∧ w'.cell? ⟨b, off + k * 9 + 4, none⟩ = some (.int .i64 x4) ∧ w'.cell? ⟨b, off + k * 9 + 5, none⟩ = some (.int .i64 x5) ∧ w'.cell? ⟨b, off + k * 9 + 6, none⟩ = some (.bool x6) ∧ w'.cell? ⟨b, off + k * 9 + 7, none⟩ = some (.int .u64 x7) ∧ w'.cell? ⟨b, off + k * 9 + 8, none⟩ = some (.int .i64 x8) ∧ w'.cell? ⟨b, off + q * 9, none⟩ = some (.bool z0) ∧ w'.cell? ⟨b, off + q * 9 + 1, none⟩ = some (.int .i64 z1) ∧ w'.cell? ⟨b, off + q * 9 + 2, none⟩ = some (.bool z2) ∧ w'.cell? ⟨b, off + q * 9 + 3, none⟩ = some (.int .u64 z3) ∧ w'.cell? ⟨b, off + q * 9 + 4, none⟩ = some (.int .i64 z4) ∧ w'.cell? ⟨b, off + q * 9 + 5, none⟩ = some (.int .i64 z5) ∧ w'.cell? ⟨b, off + q * 9 + 6, none⟩ = some (.bool z6) ∧ w'.cell? ⟨b, off + q * 9 + 7, none⟩ = some (.int .u64 z7) ∧ w'.cell? ⟨b, off + q * 9 + 8, none⟩ = some (.int .i64 z8)) (ds := []) (bq 12 0) (by kernel_rfl) rfl rfl ⟨X.1, X.2.1, X.2.2.1, X.2.2.2.1, X.2.2.2.2.1, X.2.2.2.2.2.1, X.2.2.2.2.2.2.1, X.2.2.2.2.2.2.2.1, X.2.2.2.2.2.2.2.2, Z.1, Z.2.1, Z.2.2.1, Z.2.2.2.1, Z.2.2.2.2.1, Z.2.2.2.2.2.1, Z.2.2.2.2.2.2.1, Z.2.2.2.2.2.2.2.1, Z.2.2.2.2.2.2.2.2⟩ (fun hHeld => ?_)
     generalize hWW : World.drew _ = W3 at X Z HB hbl hHeld ⊢
     clear hWW
     refine pure_ (i := 0) (N := some 20) (v := ?_) (a' := ?_) (bq 12 1) rfl rfl (by kernel_rfl) (fun _ _ _ h => h) (Or.inl ⟨by rfl, ?_⟩) ?_ ?_
     rotate_left
     ·intro w'
      go_simp
      with_reducible rfl
     rotate_left
     ·simp only [Act.put, pA, pB, pC]
      rfl
     refine pure_ (i := 1) (N := some 21) (v := ?_) (a' := ?_) (bq 12 3) rfl rfl (by kernel_rfl) (fun _ _ _ h => h) (Or.inl ⟨by rfl, ?_⟩) ?_ ?_
     rotate_left
     ·intro w'
      go_simp
      with_reducible rfl
     rotate_left
     ·simp only [Act.put, pA, pB, pC]
      rfl
     refine pure_ (i := 2) (N := some 22) (v := ?_) (a' := ?_) (bq 12 7) rfl rfl (by kernel_rfl) (fun _ _ _ h => h) (Or.inl ⟨by rfl, ?_⟩) ?_ ?_
     rotate_left
     ·intro w'
      go_simp
      with_reducible rfl
     rotate_left
     ·simp only [Act.put, pA, pB, pC]
      rfl
     refine take_ (i := 3) (N := some 23) (v := ?_) (a' := ?_) (bq 12 15) rfl rfl (by kernel_rfl) (fun _ _ _ h => h) (Or.inl ⟨by rfl, ?_⟩) hHeld ?_ ?_
     rotate_left
     ·rintro w' ⟨s0_, s1_, s2_, s3_, s4_, s5_, s6_, s7_, s8_, s9_, s10_, s11_, s12_, s13_, s14_, s15_, s16_, s17_⟩
      go_simp
      with_reducible rfl
     rotate_left
     ·simp only [Act.put, pA, pB, pC]
      rfl
     refine pure_ (i := 5) (N := some 25) (v := ?_) (a' := ?_) (bq 12 47) rfl rfl (by kernel_rfl) (fun _ _ _ h => h) (Or.inl ⟨by rfl, ?_⟩) ?_ ?_
     rotate_left
     ·intro w'
      go_simp
      with_reducible rfl
     rotate_left
     ·simp only [Act.put, pA, pB, pC]
      rfl
     refine pure_ (i := 6) (N := some 26) (v := ?_) (a' := ?_) (bq 12 111) rfl rfl (by kernel_rfl) (fun _ _ _ h => h) (Or.inl ⟨by rfl, ?_⟩) ?_ ?_
     rotate_left
     ·intro w'
      go_simp
      with_reducible rfl
     rotate_left
     ·simp only [Act.put, pA, pB, pC]
      rfl
     refine pure_ (i := 7) (N := some 27) (v := ?_) (a' := ?_) (bq 12 239) rfl rfl (by kernel_rfl) (fun _ _ _ h => h) (Or.inl ⟨by rfl, ?_⟩) ?_ ?_
     rotate_left
     ·intro w'
      go_simp
      with_reducible rfl
     rotate_left
     ·simp only [Act.put, pA, pB, pC]
      rfl
     refine take_ (i := 8) (N := some 28) (v := ?_) (a' := ?_) (bq 12 495) rfl rfl (by kernel_rfl) (fun _ _ _ h => h) (Or.inl ⟨by rfl, ?_⟩) hHeld ?_ ?_
     rotate_left
     ·rintro w' ⟨s0_, s1_, s2_, s3_, s4_, s5_, s6_, s7_, s8_, s9_, s10_, s11_, s12_, s13_, s14_, s15_, s16_, s17_⟩
      go_simp
      with_reducible rfl
     rotate_left
     ·simp only [Act.put, pA, pB, pC]
      rfl
     refine one_ (i := 4) (N := some 24) (bq 12 511) rfl rfl (by kernel_rfl) (by decide) (fun K hK => ?_)
     refine goes_ Tryz.func28 (by kernel_rfl) rfl #[.agg #[.bool x0, .int .i64 x1, .bool x2, .int .u64 x3, .int .i64 x4, .int .i64 x5, .bool x6, .int .u64 x7, .int .i64 x8]] (by first | rfl | go_simp) rfl rfl (by simp only [List.map_toArray, List.map_cons, List.map_nil] <;> rfl) ?_
     with_reducible refine (HW1.out _).mono ?_
     rintro e w5 ⟨rfl, hb⟩
     refine ⟨_, rfl, ?_⟩
     replace HB := bl_trans HB hb
     replace X := X.call hb hbl
     replace Z := Z.call hb hbl
     replace hbl := Nat.lt_of_lt_of_le hbl hb.size
     refine hK.out _ _ ⟨X.1, X.2.1, X.2.2.1, X.2.2.2.1, X.2.2.2.2.1, X.2.2.2.2.2.1, X.2.2.2.2.2.2.1, X.2.2.2.2.2.2.2.1, X.2.2.2.2.2.2.2.2, Z.1, Z.2.1, Z.2.2.1, Z.2.2.2.1, Z.2.2.2.2.1, Z.2.2.2.2.2.1, Z.2.2.2.2.2.2.1, Z.2.2.2.2.2.2.2.1, Z.2.2.2.2.2.2.2.2⟩ (fun hHeld => ?_)
     clear hK K hb
     refine norm_ (a' := ?_) ?_ ?_
     rotate_left
     ·show Act.put _ (some 24) _ = _
      simp only [Act.put, pA, pB, pC]
      rfl
     refine one_ (i := 9) (N := some 29) (bq 12 1023) rfl rfl (by kernel_rfl) (by decide) (fun K hK => ?_)
     refine goes_ Tryz.func28 (by kernel_rfl) rfl #[.agg #[.bool z0, .int .i64 z1, .bool z2, .int .u64 z3, .int .i64 z4, .int .i64 z5, .bool z6, .int .u64 z7, .int .i64 z8]] (by first | rfl | go_simp) rfl rfl (by simp only [List.map_toArray, List.map_cons, List.map_nil] <;> rfl) ?_
     with_reducible refine (HW2.out _).mono ?_
     rintro e w6 ⟨rfl, hb⟩
     refine ⟨_, rfl, ?_⟩
     replace HB := bl_trans HB hb
     replace X := X.call hb hbl
     replace Z := Z.call hb hbl
     replace hbl := Nat.lt_of_lt_of_le hbl hb.size
     refine hK.out _ _ ⟨X.1, X.2.1, X.2.2.1, X.2.2.2.1, X.2.2.2.2.1, X.2.2.2.2.2.1, X.2.2.2.2.2.2.1, X.2.2.2.2.2.2.2.1, X.2.2.2.2.2.2.2.2, Z.1, Z.2.1, Z.2.2.1, Z.2.2.2.1, Z.2.2.2.2.1, Z.2.2.2.2.2.1, Z.2.2.2.2.2.2.1, Z.2.2.2.2.2.2.2.1, Z.2.2.2.2.2.2.2.2⟩ (fun hHeld => ?_)
     clear hK K hb
     refine norm_ (a' := ?_) ?_ ?_
     rotate_left
     ·show Act.put _ (some 29) _ = _
      simp only [Act.put, pA, pB, pC]
      rfl
     refine one_ (i := 10) (N := some 30) (bq 12 2047) rfl rfl (by kernel_rfl) (by decide) (fun K hK => ?_)
     refine goes_ Tryz.func27 (by kernel_rfl) rfl #[.agg #[.int .i64 f0, .bool f1, .int .u64 f2, .int .i64 f3], .agg #[.int .i64 h0, .bool h1, .int .u64 h2, .int .i64 h3]] (by first | rfl | go_simp) rfl rfl (by simp only [List.map_toArray, List.map_cons, List.map_nil] <;> rfl) ?_
     with_reducible refine (HC.out _).mono ?_
     rintro e w7 ⟨rfl, hb⟩
     refine ⟨_, rfl, ?_⟩
     replace HB := bl_trans HB hb
     replace X := X.call hb hbl
     replace Z := Z.call hb hbl
     replace hbl := Nat.lt_of_lt_of_le hbl hb.size
     refine hK.out _ _ ⟨X.1, X.2.1, X.2.2.1, X.2.2.2.1, X.2.2.2.2.1, X.2.2.2.2.2.1, X.2.2.2.2.2.2.1, X.2.2.2.2.2.2.2.1, X.2.2.2.2.2.2.2.2, Z.1, Z.2.1, Z.2.2.1, Z.2.2.2.1, Z.2.2.2.2.1, Z.2.2.2.2.2.1, Z.2.2.2.2.2.2.1, Z.2.2.2.2.2.2.2.1, Z.2.2.2.2.2.2.2.2⟩ (fun hHeld => ?_)
     clear hK K hb
     refine norm_ (a' := ?_) ?_ ?_
     rotate_left
     ·show Act.put _ (some 30) _ = _
      simp only [Act.put, pA, pB, pC]
      rfl
     refine pure_ (i := 11) (N := some 31) (v := ?_) (a' := ?_) (bq 12 4095) rfl rfl (by kernel_rfl) (fun _ _ _ h => h) (Or.inl ⟨by rfl, ?_⟩) ?_ ?_
     rotate_left
     ·intro w'
      go_simp
      with_reducible rfl
     rotate_left
     ·simp only [Act.put, pA, pB, pC]
      rfl
     refine done_ (by kernel_rfl) ?_
     clear hHeld X Z
     by_cases hr : 0 < r
     ·go_wp2
      go_roundw
      case rel => exact ⟨k + 1, by omega, by omega, by go_num, by rw [hstep.out, if_pos hr], HB⟩
      case measure => simp [intOf]; omega
     ·go_wp2
      go_roundw
      case rel => exact ⟨k + 1, by omega, by omega, by go_num, by rw [hstep.out, if_neg hr], HB⟩
      case measure => simp [intOf]; omega
    ·obtain rfl : k = n := by omega
     clear hs
     go_wp2
     go_ret
     exact ⟨rfl, HB⟩
 ·rw [hp] at HE
  rw [if_pos (.inl rfl)]
  clear hs hp
  go_enter Tryz.func11, Tryz.ntmps11
  go_wp2_with (go_at_call 26; (refine HE.out.mono ?_); rintro e' w1 ⟨rfl, hb1⟩)
  go_ret
  exact ⟨rfl, hb1⟩
set_option maxRecDepth 100000 in
set_option maxHeartbeats 4000000 in
theorem r14split_calls (A : Option Addr) (n c i : Nat) (xs : List Iv) (w : World) (hs : SlI w w.heap.size A n xs) (hw : ∀ x ∈ xs, WfIv x) (hf : FewB xs) (hn : n ≤ 1000) (hi : i < n) :
  Calls Tryz.prog 8 #[.slice A n c, .int .i64 i] w fun e w' => ∃ A1 c1 A2 c2, e = .returned (.tuple #[.slice A1 n c1, .slice A2 n c2]) ∧ SlI w' w'.heap.size A1 n (halfA xs i) ∧ SlI w' w'.heap.size A2 n (halfB xs i) ∧ Below w.heap.size w w' := by
 have hl := hs.1
 obtain ⟨b, off, x, rfl, hbB, hx, X⟩ := hs.n9 hi
 have HF := Lib.hid (fun A c ys W (h : SlI W W.heap.size A n ys) => r14fair_calls A n c ys W h hn)
 unfold halfA halfB
 rw [ivAt_of hx]
 have wx := hw x (List.mem_of_getElem? hx)
 obtain ⟨f1, f2⟩ := hf x (List.mem_of_getElem? hx)
 have HS := Lib.hid hs
 have Hl := Lib.hid hl
 clear hs hl hx hw hf
 obtain ⟨x0, ⟨x1, x2, x3, x4⟩, ⟨x5, x6, x7, x8⟩⟩ := x
 have HSP := Lib.hid (fun W => r8split_calls x0 x1 x2 x3 x4 x5 x6 x7 x8 W wx f1 f2)
 generalize splitA ⟨x0, ⟨x1, x2, x3, x4⟩, ⟨x5, x6, x7, x8⟩⟩ = s at HSP ⊢
 generalize splitB ⟨x0, ⟨x1, x2, x3, x4⟩, ⟨x5, x6, x7, x8⟩⟩ = t at HSP ⊢
 clear wx f1 f2
 have hi0 : ¬ (i : Int) < 0 := by omega
 have hin : ¬ (n : Int) ≤ i := by omega
 go_enter Tryz.func8, Tryz.ntmps8
 go_wp2_with (first
  | (at_builtin; refine wpList_appI rfl (.const (.slice none 0 0)) (.tmp 18) rfl w.heap.size (.slice none 0 0) [] rfl (OwnI.nil _ _) w.heap.size ⟨b, off, none⟩ n c xs rfl HS.out (by simp; omega) (Nat.le_refl _) ?_; intro v1 w1 O1 hg1 hat1; have hb1 := (Below.refl w.heap.size w).grown hg1 (Nat.le_refl _) (fun k hk => by cases hk); clear hg1 hat1; rw [List.nil_append] at O1; replace O1 := Lib.hid O1)
  | (at_builtin; refine wpList_appI rfl (.const (.slice none 0 0)) (.tmp 20) rfl w1.heap.size (.slice none 0 0) [] rfl (OwnI.nil _ _) w1.heap.size ⟨b, off, none⟩ n c xs rfl (HS.out.on hb1) (by simp; omega) (Nat.le_refl _) ?_; intro v2 w2 O2 hg2 hat2; have hb2 := (Below.refl w1.heap.size w1).grown hg2 (Nat.le_refl _) (fun k hk => by cases hk); clear hg2 hat2; rw [List.nil_append] at O2; have HB2 := bl_trans hb1 hb2; have O1' := O1.out.call hb2; obtain ⟨g1, cap1, cur1, rfl, q1, q2, q3, q4, q5, q6⟩ := O1'.blkn Hl.out (by omega); obtain ⟨g2, cap2, cur2, rfl, p1, p2, p3, p4, p5, p6⟩ := O2.blkn Hl.out (by omega); have hg1 : g1 < w1.heap.size := (by have := O1.out.lt g1 rfl; omega); replace X := X.call HB2 hbB; replace q6 := Lib.hid q6; replace p6 := Lib.hid p6; dsimp only [N9] at X; obtain ⟨e0, e1, e2, e3, e4, e5, e6, e7, e8⟩ := X; clear O1 O1' O2)
  | (go_at_call 22; (refine (HSP.out _).mono ?_); rintro e' w3 ⟨rfl, hb3⟩; have HB3 := bl_trans HB2 hb3; have B1 := q2.call hb3; have B2 := p2.call hb3; have hz2 := HB2.size; have h1 := B1.lt; have h2 := B2.lt; clear e0 e1 e2 e3 e4 e5 e6 e7 e8 hb3 q2 p2)
  | (refine wpList_stG rfl 39 (.tmp 8) (.tmp 28) rfl w3.heap.size _ #[.bool s.emp, .int .i64 s.lo.k, .bool s.lo.n, .int .u64 s.lo.m, .int .i64 s.lo.e, .int .i64 s.hi.k, .bool s.hi.n, .int .u64 s.hi.m, .int .i64 s.hi.e] ((Blk.new w3 _ _).alloc _) rfl rfl (by kernel_rfl) rfl (by simp [Value.oneCell']) ?_; intro W4 S4 P4; replace B1 := P4.blk ((B1.alloc _).alloc _) (by omega); replace B2 := P4.blk ((B2.alloc _).alloc _) (by omega); have T4 := P4.blk (Blk.new1 w3 _ _ _) (by omega); have HB4 := P4.bel (bl_alloc (bl_alloc HB3 _) _) (by omega))
  | (refine wpList_stG rfl 39 (.tmp 9) (.tmp 29) rfl (w3.heap.size + 1) _ #[.bool t.emp, .int .i64 t.lo.k, .bool t.lo.n, .int .u64 t.lo.m, .int .i64 t.lo.e, .int .i64 t.hi.k, .bool t.hi.n, .int .u64 t.hi.m, .int .i64 t.hi.e] T4 rfl rfl (by kernel_rfl) rfl (by simp [Value.oneCell']) ?_; intro W5 T5 P5; replace B1 := P5.blk B1 (by omega); replace B2 := P5.blk B2 (by omega); have S5 := P5.blk S4 (by omega); have HB5 := P5.bel HB4 (by omega); clear S4 T4 P4 P5; obtain ⟨⟨l0, l1, l2, l3, l4, l5, l6, l7, l8⟩, _⟩ := S5.c9)
  | (refine wpList_stM rfl 39 (.tmp 33) (.tmp 32) rfl g1 (i * 9) 39 cur1 #[.bool s.emp, .int .i64 s.lo.k, .bool s.lo.n, .int .u64 s.lo.m, .int .i64 s.lo.e, .int .i64 s.hi.k, .bool s.hi.n, .int .u64 s.hi.m, .int .i64 s.hi.e] _ B1 rfl rfl (by kernel_rfl) (by simp; omega) (by simp [Value.oneCell']) rfl ?_; intro W6 C1 P6; have C2 := P6.blk B2 (by omega); have T6 := P6.blk T5 (by omega); have HB6 := P6.bel HB5 (by omega); clear l0 l1 l2 l3 l4 l5 l6 l7 l8 B1 B2 S5 T5; obtain ⟨⟨l0, l1, l2, l3, l4, l5, l6, l7, l8⟩, _⟩ := T6.c9)
  | (refine wpList_stM rfl 39 (.tmp 37) (.tmp 36) rfl g2 (i * 9) 39 cur2 #[.bool t.emp, .int .i64 t.lo.k, .bool t.lo.n, .int .u64 t.lo.m, .int .i64 t.lo.e, .int .i64 t.hi.k, .bool t.hi.n, .int .u64 t.hi.m, .int .i64 t.hi.e] _ C2 rfl rfl (by kernel_rfl) (by simp; omega) (by simp [Value.oneCell']) rfl ?_; intro W7 D2 P7; have D1 := P7.blk C1 (by omega); have HB7 := P7.bel HB6 (by omega); have OA := Lib.hid (OwnI.setn (base := w.heap.size) Hl.out hi q1 q3 q4 q5 q6.out D1); have OB := Lib.hid (OwnI.setn (base := w.heap.size) Hl.out hi (Nat.le_trans hb1.size p1) p3 p4 p5 p6.out D2); clear C1 C2 D1 D2 P6 P7 T6 l0 l1 l2 l3 l4 l5 l6 l7 l8)
  | (go_at_call 23; first
   | ((with_reducible refine (HF.out _ _ (xs.set i s) _ (OA.out.sl' (by rw [List.length_set]; exact Hl.out))).mono ?_); rintro e' w8 ⟨v8, rfl, O8, hb8⟩; have HB8 := bl_trans HB7 hb8; have OC := Lib.hid (OB.out.call hb8))
   | ((with_reducible refine (HF.out _ _ (xs.set i t) _ (OC.out.sl' (by rw [List.length_set]; exact Hl.out))).mono ?_); rintro e' w9 ⟨v9, rfl, O9, hb9⟩; have HB9 := bl_trans HB8 hb9; have OD := O8.call hb9)))
 go_ret2
 obtain ⟨A1, c1, rfl, S1⟩ := OD.sln (n := n) (by rw [fairB_len, List.length_set]; exact Hl.out)
 obtain ⟨A2, c2, rfl, S2⟩ := O9.sln (n := n) (by rw [fairB_len, List.length_set]; exact Hl.out)
 exact ⟨A1, c1, A2, c2, rfl, S1, S2, HB9⟩
/-- none, where there is no such place -/
theorem r14split_out (A : Option Addr) (n c : Nat) (i : Int) (w : World) (hi : i < 0 ∨ (n : Int) ≤ i) :
  Calls Tryz.prog 8 #[.slice A n c, .int .i64 i] w fun e w' => e = .returned (.tuple #[.slice none 0 0, .slice none 0 0]) ∧ Below w.heap.size w w' := by
 by_cases h0 : i < 0
 ·go_enter Tryz.func8, Tryz.ntmps8
  go_wp2
  go_ret2
  exact ⟨rfl, Below.refl _ _⟩
 ·have h1 : (n : Int) ≤ i := hi.resolve_left h0
  clear hi
  go_enter Tryz.func8, Tryz.ntmps8
  go_wp2
  go_ret2
  exact ⟨rfl, Below.refl _ _⟩
theorem split_out (A : Option Addr) (n c : Nat) (i : Int) (w : World) (hi : i < 0 ∨ (n : Int) ≤ i) :
  Calls Tryz.prog 7 #[.slice A n c, .int .i64 i] w fun e w' => e = .returned (.tuple #[.slice none 0 0, .slice none 0 0]) ∧ Below w.heap.size w w' := by
 by_cases h0 : i < 0
 ·go_enter Tryz.func7, Tryz.ntmps7
  go_wp2
  go_ret2
  exact ⟨rfl, Below.refl _ _⟩
 ·have h1 : (n : Int) ≤ i := hi.resolve_left h0
  clear hi
  go_enter Tryz.func7, Tryz.ntmps7
  go_wp2
  go_ret2
  exact ⟨rfl, Below.refl _ _⟩
def fewI (x : Iv) : Bool := fewN x.lo && fewN x.hi
set_option maxRecDepth 100000 in
set_option maxHeartbeats 4000000 in
theorem few14_calls (A : Option Addr) (n c : Nat) (xs : List Iv) (w : World) (hs : SlI w w.heap.size A n xs) :
  Calls Tryz.prog 6 #[.slice A n c] w fun e w' => e = .returned (.bool (decide (n ≤ 20) && xs.all fewI)) ∧ Below w.heap.size w w' := by
 by_cases h20 : 20 < n
 ·rw [decide_eq_false (by omega), Bool.false_and]
  clear hs
  go_enter Tryz.func6, Tryz.ntmps6
  go_wp2
  go_ret
  exact ⟨rfl, Below.refl _ _⟩
 ·rw [decide_eq_true (by omega), Bool.true_and]
  go_enter Tryz.func6, Tryz.ntmps6
  go_wp2
  go_loopw [3, 4] (fun i _ wr => ∃ k : Nat, k ≤ n ∧ i = .int .i64 k ∧ xs.all fewI = (xs.drop k).all fewI ∧ Below w.heap.size w wr) (fun i _ _ => n - (intOf i).toNat)
  case atStart => exact ⟨0, Nat.zero_le _, rfl, rfl, Below.refl _ _⟩
  case round =>
   obtain ⟨k, hk, rfl, hall, HB⟩ := hrel
   by_cases hlt : k < n
   ·obtain ⟨b, off, x, rfl, hbB, hx, e0, e1, e2, e3, e4, e5, e6, e7, e8⟩ := (hs.below HB).at_ hlt
    have hd : (xs.drop k).all fewI = (fewI x && (xs.drop (k + 1)).all fewI) := by rw [List.drop_eq_getElem?_toList_append, hx]; rfl
    rw [hd] at hall
    replace hs := Lib.hid hs
    clear hd hx
    obtain ⟨x0, ⟨x1, x2, x3, x4⟩, ⟨x5, x6, x7, x8⟩⟩ := x
    have HQ := Lib.hid (fun W => few8_calls x0 x1 x2 x3 x4 x5 x6 x7 x8 W)
    have hq : fewI ⟨x0, ⟨x1, x2, x3, x4⟩, ⟨x5, x6, x7, x8⟩⟩ = (fewN ⟨x1, x2, x3, x4⟩ && fewN ⟨x5, x6, x7, x8⟩) := rfl
    rw [← hq] at HQ
    clear hq
    dsimp only at e0 e1 e2 e3 e4 e5 e6 e7 e8
    generalize fewI ⟨x0, ⟨x1, x2, x3, x4⟩, ⟨x5, x6, x7, x8⟩⟩ = q at HQ hall
    have hb0 : b < wr.heap.size := Nat.lt_of_lt_of_le hbB HB.size
    cases q
    ·replace hall := Lib.hid hall
     go_wp2_with (go_at_call 18; (refine (HQ.out _).mono ?_); rintro e' w1 ⟨rfl, hb⟩; replace HB := bl_trans HB hb)
     go_ret
     exact ⟨by rw [hall.out]; rfl, HB⟩
    ·rw [Bool.true_and] at hall
     replace hall := Lib.hid hall
     go_wp2_with (go_at_call 18; (refine (HQ.out _).mono ?_); rintro e' w1 ⟨rfl, hb⟩; replace HB := bl_trans HB hb)
     refine ⟨⟨k + 1, by omega, by go_num, hall.out, HB⟩, by simp [intOf]; omega⟩
   ·obtain rfl : k = n := by omega
    rw [List.drop_eq_nil_of_le (by rw [hs.1]; exact Nat.le_refl _)] at hall
    replace hall := Lib.hid hall
    clear hs
    go_wp2
    go_ret
    exact ⟨by rw [hall.out]; rfl, HB⟩
end Go.Proofs.YtagojbgmgkkdpaaGreat.Wk

/- Walk: peloruslaw14.awake. -/
namespace Go.Proofs.YtagojbgmgkkdpaaGreat.Wk
open Go.RowKit Go.Proofs.Pl Go.Proofs.YtagojbgmgkkdpaaGreatW.PrintLast
set_option linter.unusedSimpArgs false
set_option linter.unusedVariables false

def i02 : Iv := ⟨false, ⟨0, false, 0, 0⟩, ⟨1, false, 9223372036854775808, -62⟩⟩
def i01 : Iv := ⟨false, ⟨0, false, 0, 0⟩, ⟨1, false, 9223372036854775808, -63⟩⟩
def i13 : Iv := ⟨false, ⟨1, false, 9223372036854775808, -63⟩, ⟨1, false, 13835058055282163712, -62⟩⟩
def i23 : Iv := ⟨false, ⟨1, false, 9223372036854775808, -62⟩, ⟨1, false, 13835058055282163712, -62⟩⟩
def i03 : Iv := ⟨false, ⟨0, false, 0, 0⟩, ⟨1, false, 13835058055282163712, -62⟩⟩
theorem aw14_a : (meetB [i02, i01] [i13, i23]).length = 2 := by decide +kernel
theorem aw14_b : emptyB (meetB [i02, i01] [i13, i23]) = true := by decide +kernel
theorem aw14_c : emptyB [i02, i01] = false := by decide +kernel
theorem wid0 (h : Num) (hw : Wf h) (hf : fairI ⟨false, zero, h⟩ = ⟨false, zero, h⟩) (hm : fairN h = h) : widthI ⟨false, zero, h⟩ = h := by
  unfold widthI
  rw [hf]
  show subN h zero true = h
  rw [subN_zero _ hw, hm]
theorem wid01 : widthI i01 = ⟨1, false, 9223372036854775808, -63⟩ := wid0 ⟨1, false, 9223372036854775808, -63⟩ (by unfold Wf; simp) (by decide +kernel) (by decide +kernel)
theorem wid03 : widthI i03 = ⟨1, false, 13835058055282163712, -62⟩ := wid0 ⟨1, false, 13835058055282163712, -62⟩ (by unfold Wf; simp) (by decide +kernel) (by decide +kernel)
theorem aw14_d : widestB [i01, i03] = 1 := by
  unfold widestB
  rw [if_neg (by decide +kernel)]
  have b1 : bestN [i01, i03] 1 = 0 := by
    show (if 0 < cmpN (widthI (ivAt [i01, i03] 0)) (widthI (ivAt [i01, i03] 0)) then 0 else 0) = 0
    split <;> rfl
  show ((if 0 < cmpN (widthI (ivAt [i01, i03] 1)) (widthI (ivAt [i01, i03] (bestN [i01, i03] 1))) then 1 else bestN [i01, i03] 1 : Nat) : Int) = 1
  rw [b1]
  show ((if 0 < cmpN (widthI i03) (widthI i01) then 1 else 0 : Nat) : Int) = 1
  rw [wid01, wid03]
  decide +kernel
theorem aw14_w : ∀ x ∈ [i01, i03], WfIv x := by
  intro x hx
  simp only [List.mem_cons, List.not_mem_nil, or_false] at hx
  rcases hx with rfl | rfl <;> (unfold WfIv Wf; decide)
set_option maxRecDepth 100000 in
set_option maxHeartbeats 8000000 in
theorem awake14_calls (w : World) : Calls Tryz.prog 5 #[] w fun e w' => e = .returned (.bool true) ∧ Below w.heap.size w w' := by
  have HM := Lib.hid (fun A c B d W h1 h2 => meetB_calls A 2 c [i02, i01] B 2 d [i13, i23] W h1 h2 (by omega))
  have hl := aw14_a
  have HE1 := Lib.hid (fun A c W h => emptyB_calls A 2 c (meetB [i02, i01] [i13, i23]) W h (by omega))
  have HE2 := Lib.hid (fun A c W h => emptyB_calls A 2 c [i02, i01] W h (by omega))
  have HW := Lib.hid (fun A c W h => widestB_calls A 2 c [i01, i03] W h aw14_w (by omega))
  rw [aw14_b] at HE1
  rw [aw14_c] at HE2
  rw [aw14_d] at HW
  generalize meetB [i02, i01] [i13, i23] = M at HM HE1 hl
  have Hl := Lib.hid hl
  clear hl
  have HB0 := Below.refl w.heap.size w
  go_enter Tryz.func5, Tryz.ntmps5
  go_wp2_with (first
    | (go_at_call 15; first
      | ((with_reducible refine (ofI_0_2 w).mono ?_); rintro e' w1 ⟨rfl, hb⟩; have HB1 := bl_trans HB0 hb; clear hb)
      | ((with_reducible refine (ofI_0_1 w1).mono ?_); rintro e' w2 ⟨rfl, hb⟩; have HB2 := bl_trans HB1 hb; clear hb
         have HB2' := bl_alloc HB2 (.cells #[.bool false, .int .i64 0, .bool false, .int .u64 0, .int .i64 0, .int .i64 1, .bool false, .int .u64 9223372036854775808, .int .i64 (-62), .bool false, .int .i64 0, .bool false, .int .u64 0, .int .i64 0, .int .i64 1, .bool false, .int .u64 9223372036854775808, .int .i64 (-63)] 39)
         have SA := Lib.hid (SlI.lit2 (x := i02) (y := i01) (Blk.new w2 39 _) (show w2.heap.size < (w2.alloc (.cells #[.bool false, .int .i64 0, .bool false, .int .u64 0, .int .i64 0, .int .i64 1, .bool false, .int .u64 9223372036854775808, .int .i64 (-62), .bool false, .int .i64 0, .bool false, .int .u64 0, .int .i64 0, .int .i64 1, .bool false, .int .u64 9223372036854775808, .int .i64 (-63)] 39)).heap.size by simp)))
      | ((with_reducible refine (ofI_1_3 _).mono ?_); rintro e' w3 ⟨rfl, hb⟩; have HB3 := bl_trans HB2' hb; have SA3 := Lib.hid (SA.out.on hb); clear hb)
      | ((with_reducible refine (ofI_2_3 w3).mono ?_); rintro e' w4 ⟨rfl, hb⟩; have HB4 := bl_alloc (bl_trans HB3 hb) (.cells #[.bool false, .int .i64 1, .bool false, .int .u64 9223372036854775808, .int .i64 (-63), .int .i64 1, .bool false, .int .u64 13835058055282163712, .int .i64 (-62), .bool false, .int .i64 1, .bool false, .int .u64 9223372036854775808, .int .i64 (-62), .int .i64 1, .bool false, .int .u64 13835058055282163712, .int .i64 (-62)] 39)
         have SA4 := Lib.hid (SA3.out.on (bl_alloc hb (.cells #[.bool false, .int .i64 1, .bool false, .int .u64 9223372036854775808, .int .i64 (-63), .int .i64 1, .bool false, .int .u64 13835058055282163712, .int .i64 (-62), .bool false, .int .i64 1, .bool false, .int .u64 9223372036854775808, .int .i64 (-62), .int .i64 1, .bool false, .int .u64 13835058055282163712, .int .i64 (-62)] 39))); clear hb
         have SB4 := Lib.hid (SlI.lit2 (x := i13) (y := i23) (Blk.new w4 39 _) (show w4.heap.size < (w4.alloc (.cells #[.bool false, .int .i64 1, .bool false, .int .u64 9223372036854775808, .int .i64 (-63), .int .i64 1, .bool false, .int .u64 13835058055282163712, .int .i64 (-62), .bool false, .int .i64 1, .bool false, .int .u64 9223372036854775808, .int .i64 (-62), .int .i64 1, .bool false, .int .u64 13835058055282163712, .int .i64 (-62)] 39)).heap.size by simp)))
      | ((with_reducible refine (ofI_0_1 w7).mono ?_); rintro e' w8 ⟨rfl, hb⟩; have HB8 := bl_trans HB7 hb; clear hb)
      | ((with_reducible refine (ofI_0_3 w8).mono ?_); rintro e' w9 ⟨rfl, hb⟩; have HB9 := bl_alloc (bl_trans HB8 hb) (.cells #[.bool false, .int .i64 0, .bool false, .int .u64 0, .int .i64 0, .int .i64 1, .bool false, .int .u64 9223372036854775808, .int .i64 (-63), .bool false, .int .i64 0, .bool false, .int .u64 0, .int .i64 0, .int .i64 1, .bool false, .int .u64 13835058055282163712, .int .i64 (-62)] 39); clear hb))
    | (go_at_call 16; (refine (HM.out _ _ _ _ _ SA4.out SB4.out).mono ?_); rintro e' w5 ⟨v5, rfl, O5, hb⟩; obtain ⟨A5, c5, rfl, S5⟩ := O5.sln Hl.out; have HS5 := Lib.hid S5; have HB5 := bl_trans HB4 hb; have SA5 := Lib.hid (SA4.out.on hb); clear hb O5 S5)
    | (go_at_call 17; first
      | ((with_reducible refine (HE1.out A5 c5 w5 HS5.out).mono ?_); rintro e' w6 ⟨rfl, hb⟩; have HB6 := bl_trans HB5 hb; have SA6 := Lib.hid (SA5.out.on hb); clear hb)
      | ((with_reducible refine (HE2.out _ _ w6 SA6.out).mono ?_); rintro e' w7 ⟨rfl, hb⟩; have HB7 := bl_trans HB6 hb; clear hb))
    | (go_at_call 10; (refine (HW.out _ _ _ (SlI.lit2 (x := i01) (y := i03) (Blk.new w9 39 _) (show w9.heap.size < (w9.alloc (.cells #[.bool false, .int .i64 0, .bool false, .int .u64 0, .int .i64 0, .int .i64 1, .bool false, .int .u64 9223372036854775808, .int .i64 (-63), .bool false, .int .i64 0, .bool false, .int .u64 0, .int .i64 0, .int .i64 1, .bool false, .int .u64 13835058055282163712, .int .i64 (-62)] 39)).heap.size by simp))).mono ?_); rintro e' w10 ⟨rfl, hb⟩; have HB10 := bl_trans HB9 hb; clear hb))
  go_ret
  exact ⟨rfl, HB10⟩
end Go.Proofs.YtagojbgmgkkdpaaGreat.Wk

/- Walk: peloruslaw14.BoxParts returns true, for every input. -/
namespace Go.Proofs.YtagojbgmgkkdpaaGreat.Wk
open Go.RowKit Go.Proofs.Pl Go.Proofs.YtagojbgmgkkdpaaGreatW.PrintLast
set_option linter.unusedSimpArgs false
set_option linter.unusedVariables false

theorem SlI.nil0 (w : World) (B : Nat) : SlI w B none 0 [] := ⟨rfl, fun h => absurd h (by omega)⟩
set_option maxRecDepth 100000 in
set_option maxHeartbeats 8000000 in
theorem boxParts_calls (A : Option Addr) (n c : Nat) (xs : List Iv) (i : Int) (w : World) (hs : SlI w w.heap.size A n xs) (wx : ∀ x ∈ xs, WfIv x) :
  Calls Tryz.prog 3 #[.slice A n c, .int .i64 i] w fun e w' => e = .returned (.bool true) ∧ Below w.heap.size w w' := by
 have HB0 := Below.refl w.heap.size w
 have HQ := (fun W h => few14_calls A n c xs W h)
 have S := Lib.hid hs
 cases hq : (decide (n ≤ 20) && xs.all fewI)
 ·rw [hq] at HQ
  replace HQ := Lib.hid HQ
  clear hs wx hq
  go_enter Tryz.func3, Tryz.ntmps3
  go_wp2_with (first
   | (go_at_call 5; (refine (awake14_calls _).mono ?_); rintro e' w1 ⟨rfl, hb⟩; have HB1 := bl_trans HB0 hb; clear hb)
   | (go_at_call 6; (refine (HQ.out w1 (S.out.on HB1)).mono ?_); rintro e' w2 ⟨rfl, hb⟩; have HB2 := bl_trans HB1 hb; clear hb))
  go_ret
  exact ⟨rfl, HB2⟩
 ·rw [hq] at HQ
  replace HQ := Lib.hid HQ
  simp only [Bool.and_eq_true, decide_eq_true_eq] at hq
  obtain ⟨hn, hall⟩ := hq
  have hf : FewB xs := fun x hx => by
   have := List.all_eq_true.1 hall x hx
   unfold fewI at this
   simp only [Bool.and_eq_true] at this
   exact ⟨few_of this.1, few_of this.2⟩
  have HW := Lib.hid (fun W h => widestB_calls A n c xs W h wx (by omega))
  have HW2 := Lib.hid (fun W h => r14widest_calls A n c xs W h wx hf (by omega))
  generalize widestB xs = m at HW HW2
  by_cases hi : i < 0 ∨ (n : Int) ≤ i
  ·have HS1 := Lib.hid (fun W => r14same_calls none 0 0 [] none 0 0 W (SlI.nil0 W W.heap.size) (SlI.nil0 W W.heap.size) (by omega))
   clear hs wx hall hf hn
   go_enter Tryz.func3, Tryz.ntmps3
   go_wp2_with (first
    | (go_at_call 5; (refine (awake14_calls _).mono ?_); rintro e' w1 ⟨rfl, hb⟩; have HB1 := bl_trans HB0 hb; clear hb)
    | (go_at_call 6; (refine (HQ.out w1 (S.out.on HB1)).mono ?_); rintro e' w2 ⟨rfl, hb⟩; have HB2 := bl_trans HB1 hb; clear hb)
    | (go_at_call 7; (refine (split_out A n c i w2 hi).mono ?_); rintro e' w3 ⟨rfl, hb⟩; have HB3 := bl_trans HB2 hb; clear hb)
    | (go_at_call 8; (refine (r14split_out A n c i w3 hi).mono ?_); rintro e' w4 ⟨rfl, hb⟩; have HB4 := bl_trans HB3 hb; clear hb)
    | (go_at_call 9; first
     | ((with_reducible refine (HS1.out w4).mono ?_); rintro e' w5 ⟨rfl, hb⟩; have HB5 := bl_trans HB4 hb; clear hb)
     | ((with_reducible refine (HS1.out w5).mono ?_); rintro e' w6 ⟨rfl, hb⟩; have HB6 := bl_trans HB5 hb; clear hb))
    | (go_at_call 10; (refine (HW.out w6 (S.out.on HB6)).mono ?_); rintro e' w7 ⟨rfl, hb⟩; have HB7 := bl_trans HB6 hb; clear hb)
    | (go_at_call 11; (refine (HW2.out w7 (S.out.on HB7)).mono ?_); rintro e' w8 ⟨rfl, hb⟩; have HB8 := bl_trans HB7 hb; clear hb))
   go_ret
   exact ⟨rfl, HB8⟩
  ·obtain ⟨k, rfl⟩ : ∃ k : Nat, i = k := ⟨i.toNat, by omega⟩
   have hk : k < n := by omega
   have HA := Lib.hid (fun W h => splitB_calls A n c k xs W h wx (by omega) hk)
   have HA2 := Lib.hid (fun W h => r14split_calls A n c k xs W h wx hf (by omega) hk)
   have HS1 := Lib.hid (fun A2 c2 A4 c4 W h g => r14same_calls A2 n c2 (halfA xs k) A4 n c4 W h g (by omega))
   have HS2 := Lib.hid (fun A2 c2 A4 c4 W h g => r14same_calls A2 n c2 (halfB xs k) A4 n c4 W h g (by omega))
   generalize halfA xs k = L1 at HA HA2 HS1
   generalize halfB xs k = L2 at HA HA2 HS2
   clear hs wx hall hf hn hi hk
   go_enter Tryz.func3, Tryz.ntmps3
   go_wp2_with (first
    | (go_at_call 5; (refine (awake14_calls _).mono ?_); rintro e' w1 ⟨rfl, hb⟩; have HB1 := bl_trans HB0 hb; clear hb)
    | (go_at_call 6; (refine (HQ.out w1 (S.out.on HB1)).mono ?_); rintro e' w2 ⟨rfl, hb⟩; have HB2 := bl_trans HB1 hb; clear hb)
    | (go_at_call 7; (refine (HA.out w2 (S.out.on HB2)).mono ?_); rintro e' w3 ⟨A2, c2, A3, c3, rfl, S2, S3, hb⟩; replace S2 := Lib.hid S2; replace S3 := Lib.hid S3; have HB3 := bl_trans HB2 hb; clear hb)
    | (go_at_call 8; (refine (HA2.out w3 (S.out.on HB3)).mono ?_); rintro e' w4 ⟨A4, c4, A5, c5, rfl, S4, S5, hb⟩; replace S2 := Lib.hid (S2.out.on hb); replace S3 := Lib.hid (S3.out.on hb); replace S4 := Lib.hid S4; replace S5 := Lib.hid S5; have HB4 := bl_trans HB3 hb; clear hb)
    | (go_at_call 9; first
     | ((with_reducible refine (HS1.out A2 c2 A4 c4 w4 S2.out S4.out).mono ?_); rintro e' w5 ⟨rfl, hb⟩; replace S3 := Lib.hid (S3.out.on hb); replace S5 := Lib.hid (S5.out.on hb); have HB5 := bl_trans HB4 hb; clear hb S2 S4)
     | ((with_reducible refine (HS2.out A3 c3 A5 c5 w5 S3.out S5.out).mono ?_); rintro e' w6 ⟨rfl, hb⟩; have HB6 := bl_trans HB5 hb; clear hb S3 S5))
    | (go_at_call 10; (refine (HW.out w6 (S.out.on HB6)).mono ?_); rintro e' w7 ⟨rfl, hb⟩; have HB7 := bl_trans HB6 hb; clear hb)
    | (go_at_call 11; (refine (HW2.out w7 (S.out.on HB7)).mono ?_); rintro e' w8 ⟨rfl, hb⟩; have HB8 := bl_trans HB7 hb; clear hb))
   go_ret
   exact ⟨rfl, HB8⟩
end Go.Proofs.YtagojbgmgkkdpaaGreat.Wk
