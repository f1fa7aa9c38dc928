/- Walk: peloruslaw21.DegreeScales. -/
import Derived.Test.YtakajahogjeiaaaDegL
namespace Go.Proofs.Ytakajahogjeiaaa.Wk
open Go.RowKit Go.Proofs.YtakajahogjeiaaaW.PrintLast
set_option linter.unusedSimpArgs false
set_option linter.unusedVariables false

theorem OwnP.slS {w : World} {base n c : Nat} {A : Option Addr} {xs : List Deg.S} (h : OwnP w base (.slice A n c) xs) : SlP w w.heap.size A n xs := by
  obtain ⟨A', c', e, s⟩ := h.sl
  cases e
  exact s
/-- two rows that do not lie in one block -/
def Sep (u v : Value) : Prop := u.ownBlock = none ∨ v.ownBlock = none ∨ u.ownBlock ≠ v.ownBlock
theorem Sep.symm {u v : Value} (h : Sep u v) : Sep v u := by
  rcases h with h | h | h
  · exact .inr (.inl h)
  · exact .inl h
  · exact .inr (.inr (Ne.symm h))
theorem Sep.ne {u v : Value} (h : Sep u v) : u.ownBlock = none ∨ u.ownBlock ≠ v.ownBlock := by
  rcases h with h | h | h
  · exact .inl h
  · rw [h]; exact Classical.em _
  · exact .inr h
theorem Sep.app {u v u' : Value} {H : Nat} (h : Sep u v) (hu : u'.ownBlock = u.ownBlock ∨ u'.ownBlock = some H) (hv : ∀ k, v.ownBlock = some k → k < H) : Sep u' v := by
  rcases hu with e | e
  · unfold Sep; rw [e]; exact h
  · cases hk : v.ownBlock with
    | none => exact .inr (.inl hk)
    | some k =>
      refine .inr (.inr ?_)
      rw [e, hk]
      intro he
      cases he
      exact absurd (hv _ hk) (Nat.lt_irrefl _)
theorem SlP.lit1 {w : World} {g B : Nat} {T : TypeId} {x y : Int} (h : Blk w g T #[.int .i64 x, .int .i64 y]) (hB : g < B) : SlP w B (some ⟨g, 0, none⟩) 1 [(x, y)] := by
  refine ⟨rfl, fun _ => ⟨g, 0, rfl, hB, fun i z hz => ?_⟩⟩
  match i, hz with
  | 0, hz =>
    simp only [List.getElem?_cons_zero, Option.some.injEq] at hz
    subst hz
    exact ⟨h.cell 0, h.cell 1⟩
  | i + 1, hz => simp at hz
def small (p : Deg.S) : Prop := -1048576 ≤ p.1 ∧ p.1 ≤ 1048576 ∧ -1048576 ≤ p.2 ∧ p.2 ≤ 1048576
theorem mul_scl {x k : Int} (h0 : -1048576 ≤ x) (h1 : x ≤ 1048576) (k0 : 1 ≤ k) (k1 : k ≤ 1000) : wrap64 (x * k) = x * k := by
  have a : 0 ≤ (1048576 - x) * k := Int.mul_nonneg (by omega) (by omega)
  have b : 0 ≤ (x + 1048576) * k := Int.mul_nonneg (by omega) (by omega)
  rw [Int.sub_mul] at a
  rw [Int.add_mul] at b
  unfold wrap64
  omega
theorem map_take_succ (f : Deg.S → Deg.S) (xs : List Deg.S) (k : Nat) (p : Deg.S) (h : xs[k]? = some p) : (xs.take (k + 1)).map f = (xs.take k).map f ++ [f p] := by
  rw [List.take_add_one, h]
  simp

set_option maxRecDepth 100000 in
set_option maxHeartbeats 4000000 in
theorem scales_calls (A : Option Addr) (n c : Nat) (xs : List Deg.S) (f : Int) (w : World) (hs : SlP w w.heap.size A n xs) : Calls Try.prog 4 #[.slice A n c, .int .i64 f] w fun e w' => e = .returned (.bool true) ∧ Below w.heap.size w w' := by
  have HA := Lib.hid (fun W => awake21_calls W)
  by_cases hg : n ≤ 100 ∧ 1 ≤ f ∧ f ≤ 1000
  · obtain ⟨hn, hf0, hf1⟩ := hg
    have hni : ¬ (100 : Int) < (n : Int) := by omega
    go_enter Try.func4, Try.ntmps4
    go_wp2_with (go_at_call 14; (with_reducible refine (HA.out _).mono ?_); rintro e w1 ⟨rfl, hb1⟩; clear HA)
    go_loopw [6, 7, 8, 9, 10] (fun u6 u7 u8 i _ wr => ∃ k : Nat, k ≤ n ∧ i = .int .i64 k ∧ (∀ p ∈ xs.take k, small p) ∧ OwnP wr w.heap.size u6 ((xs.take k).map (Deg.scl f)) ∧ OwnP wr w.heap.size u7 ((xs.take k).map Deg.mir) ∧ OwnP wr w.heap.size u8 ((xs.take k).map Deg.rot) ∧ Sep u6 u7 ∧ Sep u6 u8 ∧ Sep u7 u8 ∧ Below w.heap.size w wr) (fun _ _ _ i _ _ => n - (intOf i).toNat)
    case atStart => exact ⟨0, Nat.zero_le _, rfl, fun p hp => (by cases hp), OwnP.nil _ _, OwnP.nil _ _, OwnP.nil _ _, Or.inl rfl, Or.inl rfl, Or.inl rfl, hb1⟩
    case round =>
      obtain ⟨k, hk, rfl, hsm, O6, O7, O8, S67, S68, S78, HB⟩ := hrel
      have hlw := HB.size
      by_cases hlt : k < n
      · obtain ⟨b, off, rfl, hbB, hx, e0, e1⟩ := (hs.below HB).at_ hlt
        have m6 := map_take_succ (Deg.scl f) xs k _ hx
        have m7 := map_take_succ Deg.mir xs k _ hx
        have m8 := map_take_succ Deg.rot xs k _ hx
        have l6 : ((xs.take k).map (Deg.scl f)).length = k := by have := hs.1; simp; omega
        have l7 : ((xs.take k).map Deg.mir).length = k := by have := hs.1; simp; omega
        have l8 : ((xs.take k).map Deg.rot).length = k := by have := hs.1; simp; omega
        have hst : ∀ p ∈ xs.take (k + 1), p ∈ xs.take k ∨ p = Deg.pt xs k := fun p hp => by
          rw [List.take_add_one, hx] at hp
          simpa using hp
        have Hsm := Lib.hid hsm
        have Hst := Lib.hid hst
        have M6 := Lib.hid m6
        have M7 := Lib.hid m7
        have M8 := Lib.hid m8
        clear hsm hst m6 m7 m8 hx
        generalize Deg.pt xs k = p at e0 e1 Hst M6 M7 M8
        obtain ⟨x, y⟩ := p
        dsimp only at e0 e1
        generalize hL6 : (xs.take k).map (Deg.scl f) = L6 at O6 l6 M6
        generalize hL7 : (xs.take k).map Deg.mir = L7 at O7 l7 M7
        generalize hL8 : (xs.take k).map Deg.rot = L8 at O8 l8 M8
        clear hL6 hL7 hL8
        by_cases hsp : small (x, y)
        · have Hsp := Lib.hid hsp
          obtain ⟨a0, a1, a2, a3⟩ := hsp
          dsimp only at a0 a1 a2 a3
          have z1 : ¬ 1048576 < x := by omega
          have z2 : ¬ x < -1048576 := by omega
          have z3 : ¬ 1048576 < y := by omega
          have z4 : ¬ y < -1048576 := by omega
          have BX := Blk.new wr 25 #[.int .i64 x, .int .i64 y]
          have HB0 := bl_alloc HB (.cells #[.int .i64 x, .int .i64 y] 25)
          have P6 := O6.alloc (.cells #[.int .i64 x, .int .i64 y] 25)
          have P7 := O7.alloc (.cells #[.int .i64 x, .int .i64 y] 25)
          have P8 := O8.alloc (.cells #[.int .i64 x, .int .i64 y] 25)
          have E6 : Hid ((wrap64 (x * f), wrap64 (y * f)) = Deg.scl f (x, y)) := by
            show _ = _
            rw [mul_scl a0 a1 hf0 hf1, mul_scl a2 a3 hf0 hf1]
            rfl
          go_wp2_with (first
            | (at_builtin; refine wpList_app rfl (.tmp 64) (.tmp 74) rfl w.heap.size u6 L6 rfl (P6.alloc _) (wr.heap.size + 2) (wr.heap.size + 1) 0 1 1 [(_, _)] rfl (SlP.lit1 (Blk.new1 wr _ _ _) (by omega)) (by omega) (bl_alloc HB0 _).size ?_
               intro v6 w2 N6 hg6 ha6
               have BX2 := (BX.alloc _).grown hg6 (fun e => absurd (O6.lt _ e.symm).2 (Nat.lt_irrefl _))
               have HB2 := (bl_alloc HB0 _).grown hg6 (bl_alloc HB0 _).size (fun k hk => (O6.lt k hk).1)
               have Q7 := (P7.alloc _).kept hg6 S67.symm.ne
               have Q8 := (P8.alloc _).kept hg6 S68.symm.ne
               have T67 : Sep v6 u7 := S67.app ha6 (fun k hk => by have := (O7.lt k hk).2; simp; omega)
               have T68 : Sep v6 u8 := S68.app ha6 (fun k hk => by have := (O8.lt k hk).2; simp; omega)
               have hz2 : wr.heap.size < w2.heap.size := BX2.lt
               obtain ⟨⟨q0, q1⟩, ⟨f0, f1⟩⟩ := BX2.c2)
            | (at_builtin; refine wpList_app rfl (.tmp 76) (.tmp 83) rfl w.heap.size u7 L7 rfl (Q7.alloc _) (w2.heap.size + 1) w2.heap.size 0 1 1 [(_, _)] rfl (SlP.lit1 (Blk.new w2 _ _) (by omega)) (by omega) (bl_alloc HB2 _).size ?_
               intro v7 w3 N7 hg7 ha7
               have BX3 := (BX2.alloc _).grown hg7 (fun e => absurd (O7.lt _ e.symm).2 (Nat.lt_irrefl _))
               have HB3 := (bl_alloc HB2 _).grown hg7 (bl_alloc HB2 _).size (fun k hk => (O7.lt k hk).1)
               have N6b := (N6.alloc _).kept hg7 T67.ne
               have R8 := (Q8.alloc _).kept hg7 S78.symm.ne
               have U67 : Sep v6 v7 := (T67.symm.app ha7 (fun k hk => by have := (N6.lt k hk).2; simp; omega)).symm
               have U78 : Sep v7 u8 := S78.app ha7 (fun k hk => by have := (Q8.lt k hk).2; simp; omega)
               have hz3 : wr.heap.size < w3.heap.size := BX3.lt
               obtain ⟨⟨p0, p1⟩, ⟨g0, g1⟩⟩ := BX3.c2)
            | (at_builtin; refine wpList_app rfl (.tmp 85) (.tmp 92) rfl w.heap.size u8 L8 rfl (R8.alloc _) (w3.heap.size + 1) w3.heap.size 0 1 1 [(_, _)] rfl (SlP.lit1 (Blk.new w3 _ _) (by omega)) (by omega) (bl_alloc HB3 _).size ?_
               intro v8 w4 N8 hg8 ha8
               have HB4 := (bl_alloc HB3 _).grown hg8 (bl_alloc HB3 _).size (fun k hk => (O8.lt k hk).1)
               have N6c := (N6b.alloc _).kept hg8 T68.ne
               have N7b := (N7.alloc _).kept hg8 U78.ne
               have V68 : Sep v6 v8 := (T68.symm.app ha8 (fun k hk => by have := (N6b.lt k hk).2; simp; omega)).symm
               have V78 : Sep v7 v8 := (U78.symm.app ha8 (fun k hk => by have := (N7.lt k hk).2; simp; omega)).symm))
          go_roundw
          case rel => exact ⟨k + 1, by omega, by go_num, (fun p hp => (Hst.out p hp).elim (Hsm.out p) (fun e => e ▸ Hsp.out)), by rw [M6.out, ← E6.out]; exact N6c, by rw [M7.out]; exact N7b, by rw [M8.out]; exact N8, U67, V68, V78, HB4⟩
          case measure => simp [intOf] <;> omega
        · have hsp' : x < -1048576 ∨ 1048576 < x ∨ y < -1048576 ∨ 1048576 < y := by
            unfold small at hsp
            dsimp only at hsp
            omega
          have HB0 := bl_alloc HB (.cells #[.int .i64 x, .int .i64 y] 25)
          clear hsp
          rcases hsp' with h | h | h | h
          all_goals
            go_wp2
            all_goals first
              | (exfalso; omega)
              | (go_ret; exact ⟨by simp, HB0⟩)
      · have hkn : k = n := by omega
        subst hkn
        have et : xs.take k = xs := List.take_of_length_le (by have := hs.1; omega)
        rw [et] at O6 O7 O8 hsm
        have hl := hs.1
        obtain ⟨A6, c6, h6, _⟩ := OwnP.sl O6
        obtain ⟨A7, c7, h7, _⟩ := OwnP.sl O7
        obtain ⟨A8, c8, h8, _⟩ := OwnP.sl O8
        rw [List.length_map, hl] at h6 h7 h8
        subst h6 h7 h8
        have HW := Lib.hid (fun W h => winding_calls A k c xs W h (by omega))
        have H6 := Lib.hid (fun W h => winding_calls A6 k c6 (xs.map (Deg.scl f)) W h (by omega))
        have H7 := Lib.hid (fun W h => winding_calls A7 k c7 (xs.map Deg.mir) W h (by omega))
        have H8 := Lib.hid (fun W h => winding_calls A8 k c8 (xs.map Deg.rot) W h (by omega))
        have hm := Deg.wind_mir xs
        have hbd := Deg.wind_bd xs (by omega)
        rw [Deg.wind_scl f hf0 hf1 xs hsm] at H6
        rw [show Deg.wind (xs.map Deg.mir) = (-(Deg.wind xs).1, (Deg.wind xs).2) from Prod.ext hm.1 hm.2] at H7
        rw [Deg.wind_turned] at H8
        clear hm
        generalize Deg.wind xs = r at HW H6 H7 H8 hbd
        obtain ⟨r1, r2⟩ := r
        dsimp only at HW H6 H7 H8 hbd
        have hs1 := hs.on HB
        clear hsm et hs hl S67 S68 S78
        go_wp2_with (go_at_call 15; first
          | ((with_reducible refine (HW.out _ hs1).mono ?_); rintro e w5 ⟨rfl, hb⟩; have HB5 := bl_trans HB hb; have S6 := OwnP.slS (O6.call hb); have P7 := O7.call hb; have P8 := O8.call hb; clear hb HW)
          | ((with_reducible refine (H6.out _ S6).mono ?_); rintro e w6 ⟨rfl, hb⟩; have HB6 := bl_trans HB5 hb; have S7 := OwnP.slS (P7.call hb); have Q8 := P8.call hb; clear hb H6)
          | ((with_reducible refine (H7.out _ S7).mono ?_); rintro e w7 ⟨rfl, hb⟩; have HB7 := bl_trans HB6 hb; have S8 := OwnP.slS (Q8.call hb); clear hb H7)
          | ((with_reducible refine (H8.out _ S8).mono ?_); rintro e w8 ⟨rfl, hb⟩; have HB8 := bl_trans HB7 hb; clear hb H8))
        all_goals go_ret
        all_goals exact ⟨by simp, HB8⟩
  · go_enter Try.func4, Try.ntmps4
    go_wp2_with (go_at_call 14; (with_reducible refine (HA.out _).mono ?_); rintro e w1 ⟨rfl, hb1⟩; clear HA)
    all_goals first
      | (exfalso; omega)
      | (go_ret; exact ⟨by simp, hb1⟩)
end Go.Proofs.Ytakajahogjeiaaa.Wk
