/- Walks: pelorusref23: digits, putNum, putIv. -/
import Derived.Test.YtakajahogjeiaaaCodD
namespace Go.Proofs.Ytakajahogjeiaaa.Wk
open Go.RowKit Go.Proofs.Pl Go.Proofs.YtakajahogjeiaaaW.PrintLast
set_option linter.unusedSimpArgs false
set_option linter.unusedVariables false

section
variable {ops : Array Oper} {o : Oper} {a : Act} {K : Act → World → Prop} {Q : Exit → Act → World → Prop} {w : World}
theorem SlB.news {B b off n : Nat} {xs : List Int} (h : SlB w B (some ⟨b, off, none⟩) n xs) (h0 : 0 < n) : ∀ j u, (flatB xs)[j]? = some u → w.cell? ((⟨b, off, none⟩ : Addr).add j) = some u := by
  intro j u hu
  have hadd : (⟨b, off, none⟩ : Addr).add j = ⟨b, off + j, none⟩ := by
    unfold Addr.add
    split
    · next h => subst h; rfl
    · simp
  rw [hadd]
  obtain ⟨b', off', e, _, hc⟩ := h.2 h0
  cases e
  have hj : j < xs.length := by have := (List.getElem?_eq_some_iff.1 hu).1; rwa [flatB_length] at this
  rw [hc j (by have := h.1; omega)]
  simp only [flatB, List.getElem?_map, List.getElem?_eq_getElem hj, Option.map_some, Option.some.injEq] at hu
  rw [← hu]
  simp [List.getD, List.getElem?_eq_getElem hj]
theorem wpList_appS {rest : List Oper} (hgd : o.guard = none) (s x : Operand) (ho : o.op = .call { callee := .builtin .append, args := #[s, x], argTypes := #[31, 31] }) (base : Nat) (v : Value) (xs : List Int) (hs : a.eval s = v) (hown : OwnB w base v xs) (B b off m c : Nat) (ys : List Int) (hx : a.eval x = .slice (some ⟨b, off, none⟩) m c) (hys : SlB w B (some ⟨b, off, none⟩) m ys) (hm : 0 < m) (hsm : xs.length + m ≤ 1000000) (hbase : base ≤ w.heap.size)
    (h : ∀ v' w', OwnB w' base v' (xs ++ ys) → w.grownBy w' v.ownBlock → wpList Try.prog ops Q rest (a.put o.dst v') w') : wpList Try.prog ops Q (o :: rest) a w :=
  wpList_plain hgd fun _ hK => by
    obtain ⟨i0, hi, hz0, hz1, hz2⟩ := info_parts infoByte
    obtain ⟨v', w', hr, h2, h3, _, h5⟩ := run_append_own_at (P := Try.prog) w base 31 o.type 5 i0 _ 1 1 Try.underlying31 hi hz0 hz1 hz2 rfl (by omega) v xs.length (flatB xs) hown ⟨b, off, none⟩ m c (flatB ys) (by rw [flatB_length, hys.1]; omega) (SlB.news hys hm) (by intro u hu; unfold flatB at hu; obtain ⟨z, _, rfl⟩ := List.mem_map.1 hu; rfl) (by simp only [maxLen]; omega) (by omega) hbase
    have h6 : OwnB w' base v' (xs ++ ys) := by
      unfold OwnB
      rw [flatB_app, List.length_append, hys.1]
      exact h2
    unfold Oper.wp execOp
    simp only [ho, resolve, invoke, builtin, Sem.run_bind, Sem.run_pure, Result.andThen_ok, List.map_toArray, List.map_cons, List.map_nil, hs, hx, hr]
    exact hK _ _ (h v' w' h6 h3)
end
/-- the cells of digits behind k rounds -/
def digCells (n : Int) (size k : Nat) : Array Value := ((List.range size).map fun j => Value.int .u8 (if size - k ≤ j then byteAt n size j else 0)).toArray
theorem digCells_get (n : Int) (size k j : Nat) (hj : j < size) : (digCells n size k)[j]? = some (.int .u8 (if size - k ≤ j then byteAt n size j else 0)) := by
  simp [digCells, hj]
theorem digCells_set (n : Int) (size k : Nat) (hk : k < size) : (digCells n size k).setIfInBounds (size - 1 - k) (.int .u8 (byteAt n size (size - 1 - k))) = digCells n size (k + 1) := by
  apply Array.ext_getElem?
  intro j
  rw [Array.getElem?_setIfInBounds]
  have hsz : (digCells n size k).size = size := by simp [digCells]
  by_cases hj : j < size
  · rw [digCells_get n size k j hj, digCells_get n size (k + 1) j hj]
    by_cases e : size - 1 - k = j
    · subst e
      rw [if_pos rfl, if_pos (by rw [hsz]; omega), if_pos (by omega)]
    · rw [if_neg e]
      congr 2
      by_cases h1 : size - k ≤ j
      · rw [if_pos h1, if_pos (by omega)]
      · rw [if_neg h1, if_neg (by omega)]
  · rw [Array.getElem?_eq_none (by rw [hsz]; omega), Array.getElem?_eq_none (show (digCells n size (k + 1)).size ≤ j by simp [digCells]; omega)]
    split
    · rw [if_neg (by rw [hsz]; omega)]
    · rfl

theorem made_dig (n : Int) (size : Nat) : madeCells (Value.int .u8 0).cells (size * 1) = digCells n size 0 := by
  apply Array.ext
  · simp [madeCells, digCells]
  · intro i h1 h2
    have h3 : i < size := by simpa [digCells] using h2
    have h4 : ¬ size ≤ i := by omega
    have h5 : i % 1 = 0 := Nat.mod_one i
    simp [madeCells, digCells, Value.cells, h4, h5]
theorem wrap_u8 (x : Int) : IntKind.u8.wrap x = x % 256 := by simp [IntKind.wrap, IntKind.signed, IntKind.bits]
theorem wrap_u64 (x : Int) : IntKind.u64.wrap x = x % 18446744073709551616 := by simp [IntKind.wrap, IntKind.signed, IntKind.bits]
theorem div_step (n : Int) (k : Nat) : n / 2 ^ (8 * k) / 256 = n / 2 ^ (8 * (k + 1)) := by
  rw [Int.ediv_ediv_of_nonneg (by exact Int.le_of_lt (Int.pow_pos (by omega)))]
  congr 1
  rw [show 8 * (k + 1) = 8 * k + 8 from by omega, Int.pow_add]
  rfl

set_option maxRecDepth 100000 in
set_option maxHeartbeats 4000000 in
theorem digits_calls (n : Int) (hn0 : 0 ≤ n) (hn1 : n < 18446744073709551616) (size : Nat) (h0 : 0 < size) (hz : size ≤ 8) (w : World) :
    Calls Try.prog 88 #[.int .u64 n, .int .i64 size] w fun e w' => e = .returned (.slice (some ⟨w.heap.size, 0, none⟩) size size) ∧ Blk w' w.heap.size 5 (digCells n size size) ∧ Below w.heap.size w w' := by
  obtain ⟨i0, hi, hz0, hz1, hz2⟩ := info_parts infoByte
  have hmk : (Instr.makeSlice 31 (.int .i64 (size : Int)) (.int .i64 (size : Int))).run Try.prog w = .ok (.slice (some ⟨w.heap.size, 0, none⟩) size size) (w.alloc (.cells (digCells n size 0) 5)) := by
    have h := run_makeSlice (P := Try.prog) w 31 5 i0 _ Try.underlying31 hi hz0 .i64 .i64 size size (by omega) (by omega) (by rw [hz1]; omega) (by rw [hz2]; omega) (by omega)
    rw [hz1, Int.toNat_natCast, made_dig n size] at h
    exact h
  go_enter Try.func88, Try.ntmps88
  go_wp2
  go_loopw [0, 6] (fun nn i wr => ∃ k : Nat, k ≤ size ∧ i = .int .i64 ((size : Int) - 1 - k) ∧ nn = .int .u64 (n / 2 ^ (8 * k)) ∧ Blk wr w.heap.size 5 (digCells n size k) ∧ Below w.heap.size w wr) (fun _ i _ => (intOf i + 1).toNat)
  case atStart => exact ⟨0, Nat.zero_le _, by simp, by simp, Blk.new w _ _, bl_alloc (Below.refl _ _) _⟩
  case round =>
    obtain ⟨k, hk, rfl, rfl, HBk, HB⟩ := hrel
    by_cases hlt : k < size
    · obtain ⟨j, hj⟩ : ∃ j, size - 1 - k = j := ⟨_, rfl⟩
      have hji : (size : Int) - 1 - k = (j : Int) := by omega
      rw [hji]
      have hjs : j < size := by omega
      have q0 := (HBk.cell j).trans (digCells_get n size k j hjs)
      have f0 := HBk.frozen j
      have hst := div_step n k
      have hset := digCells_set n size k hlt
      rw [hj] at hset
      have hby : byteAt n size j = IntKind.u8.wrap (n / 2 ^ (8 * k)) := by
        unfold byteAt
        rw [show size - 1 - j = k from by omega]
      have hN0 : 0 ≤ n / 2 ^ (8 * k) := Int.ediv_nonneg hn0 (Int.le_of_lt (Int.pow_pos (by omega)))
      have hN1 : n / 2 ^ (8 * k) ≤ n := Int.ediv_le_self _ hn0
      generalize n / 2 ^ (8 * k) = N at hst hby hN0 hN1
      have Hst := Lib.hid hst
      have Hby := Lib.hid hby
      have Hset := Lib.hid hset
      clear hst hby hset hmk
      go_wp2
      refine ⟨⟨k + 1, by omega, by congr 1; omega, ?_, ?_, bl_set HB (p := ⟨w.heap.size, j, none⟩) (Nat.le_refl _) _⟩, by simp [intOf]⟩
      · rw [← Hst.out]
      · rw [← Hset.out, Hby.out, wrap_u8]
        exact HBk.set_ j _
    · have hkn : size = k := by omega
      subst hkn
      have hki : (size : Int) - 1 - size = -1 := by omega
      rw [hki]
      go_wp2
      go_ret
      exact ⟨rfl, HBk, HB⟩

theorem digSl {w : World} {g : Nat} {n : Int} {size : Nat} (h : Blk w g 5 (digCells n size size)) : SlB w w.heap.size (some ⟨g, 0, none⟩) size (wordB n size size) := by
  refine ⟨wordB_length n size size, fun _ => ⟨g, 0, rfl, h.lt, fun i hi => ?_⟩⟩
  rw [Nat.zero_add]
  refine ((h.cell i).trans (digCells_get n size size i hi)).trans ?_
  rw [if_pos (by omega)]
  simp [wordB, List.getD, hi]
theorem digits8_calls (n : Int) (hn0 : 0 ≤ n) (hn1 : n < 18446744073709551616) (w : World) :
    Calls Try.prog 88 #[.int .u64 n, .int .i64 8] w fun e w' => e = .returned (.slice (some ⟨w.heap.size, 0, none⟩) 8 8) ∧ Blk w' w.heap.size 5 (digCells n 8 8) ∧ Below w.heap.size w w' := digits_calls n hn0 hn1 8 (by omega) (by omega) w
theorem digits4_calls (n : Int) (hn0 : 0 ≤ n) (hn1 : n < 18446744073709551616) (w : World) :
    Calls Try.prog 88 #[.int .u64 n, .int .i64 4] w fun e w' => e = .returned (.slice (some ⟨w.heap.size, 0, none⟩) 4 4) ∧ Blk w' w.heap.size 5 (digCells n 4 4) ∧ Below w.heap.size w w' := digits_calls n hn0 hn1 4 (by omega) (by omega) w
theorem OwnB.call {w w' : World} {base : Nat} {v : Value} {xs : List Int} (h : OwnB w base v xs) (hb : Below w.heap.size w w') : OwnB w' base v xs := h.same fun g hg => hb.block g (h.lt g hg).2
theorem OwnB.alloc {w : World} {base : Nat} {v : Value} {xs : List Int} (h : OwnB w base v xs) (o : Obj) : OwnB (w.alloc o) base v xs := World.ownsRow.alloc h o
/-- each block of cells of another type than bytes lies on -/
def KeepT (w w' : World) : Prop := ∀ k t cs, t ≠ 5 → Blk w k t cs → Blk w' k t cs
theorem KeepT.refl (w : World) : KeepT w w := fun _ _ _ _ h => h
theorem KeepT.trans {a b c : World} (h : KeepT a b) (k : KeepT b c) : KeepT a c := fun g t cs h2 hb => k g t cs h2 (h g t cs h2 hb)
theorem KeepT.alloc {a b : World} (h : KeepT a b) (o : Obj) : KeepT a (b.alloc o) := fun g t cs h2 hb => (h g t cs h2 hb).alloc o
theorem KeepT.below {a b c : World} (h : KeepT a b) (hb : Below b.heap.size b c) : KeepT a c := fun g t cs h2 k => (h g t cs h2 k).call hb
theorem KeepT.app {base : Nat} {a b c : World} {v : Value} {xs : List Int} (h : KeepT a b) (ho : OwnB b base v xs) (hg : b.grownBy c v.ownBlock) : KeepT a c := fun g t cs h2 k => by
  have kb := h g t cs h2 k
  exact kb.grown hg (ho.ne kb h2)
theorem encE_bd (e : Int) : 0 ≤ encE e ∧ encE e < 18446744073709551616 := by
  unfold encE
  rw [wrap_u64]
  omega

set_option maxRecDepth 100000 in
set_option maxHeartbeats 4000000 in
theorem rputNum_calls (base : Nat) (v : Value) (xs : List Int) (a0 : Int) (a1 : Bool) (a2 a3 : Int) (hm0 : 0 ≤ a2) (hm1 : a2 < 18446744073709551616) (w : World) (hO : OwnB w base v xs) (hb : base ≤ w.heap.size) (hl : xs.length ≤ 800000) :
    Calls Try.prog 60 #[v, .agg #[.int .i64 a0, .bool a1, .int .u64 a2, .int .i64 a3]] w fun e w' => ∃ v', e = .returned v' ∧ OwnB w' base v' (xs ++ encN ⟨a0, a1, a2, a3⟩) ∧ Below base w w' ∧ KeepT w w' := by
  obtain ⟨A, n, c, rfl⟩ := hO.form
  unfold encN
  dsimp only
  have HO1 := hO.alloc (.cells #[.int .i64 a0, .bool a1, .int .u64 a2, .int .i64 a3] 42)
  have HL1 := (Below.refl base w).alloc hb (.cells #[.int .i64 a0, .bool a1, .int .u64 a2, .int .i64 a3] 42)
  have hb1 : base ≤ (w.alloc (.cells #[.int .i64 a0, .bool a1, .int .u64 a2, .int .i64 a3] 42)).heap.size := by simp; omega
  have K1 := (KeepT.refl w).alloc (.cells #[.int .i64 a0, .bool a1, .int .u64 a2, .int .i64 a3] 42)
  by_cases h0 : a0 = 0
  · subst h0
    rw [if_pos rfl]
    go_enter Try.func60, Try.ntmps60
    cases a1
    all_goals
      go_wp2_with (at_builtin; refine wpList_appB rfl (.tmp 11) (.tmp 12) rfl base _ xs rfl (HO1.alloc _) (w.heap.size + 1) 5 0 1 rfl (Blk.new1 w _ _ _) (by omega) (by simp; omega) ?_; intro v3 W3 O3 hg3; have HL3 := (HL1.alloc hb1 (.cells #[.int .u8 0] 5)).grown hg3 (by simp; omega) (fun k hk => (hO.lt k hk).1); have K3 := (K1.alloc (.cells #[.int .u8 0] 5)).app (HO1.alloc _) hg3)
      go_ret
      exact ⟨_, rfl, O3, HL3, K3⟩
  · rw [if_neg h0]
    by_cases h2 : a0 = 2
    · rw [if_pos h2]
      subst h2
      clear h0
      go_enter Try.func60, Try.ntmps60
      cases a1
      · go_wp2_with (at_builtin; refine wpList_appB rfl (.tmp 17) (.tmp 20) rfl base _ xs rfl (HO1.alloc _) (w.heap.size + 1) 5 1 1 rfl (Blk.new1 w _ _ _) (by omega) (by simp; omega) ?_; intro v3 W3 O3 hg3; have HL3 := (HL1.alloc hb1 (.cells #[.int .u8 1] 5)).grown hg3 (by simp; omega) (fun k hk => (hO.lt k hk).1); have K3 := (K1.alloc (.cells #[.int .u8 1] 5)).app (HO1.alloc _) hg3)
        go_ret
        exact ⟨_, rfl, O3, HL3, K3⟩
      · go_wp2_with (at_builtin; refine wpList_appB rfl (.tmp 17) (.tmp 20) rfl base _ xs rfl (HO1.alloc _) (w.heap.size + 1) 5 2 1 rfl (Blk.new1 w _ _ _) (by omega) (by simp; omega) ?_; intro v3 W3 O3 hg3; have HL3 := (HL1.alloc hb1 (.cells #[.int .u8 2] 5)).grown hg3 (by simp; omega) (fun k hk => (hO.lt k hk).1); have K3 := (K1.alloc (.cells #[.int .u8 2] 5)).app (HO1.alloc _) hg3)
        go_ret
        exact ⟨_, rfl, O3, HL3, K3⟩
    · rw [if_neg h2]
      have k0 : (a0 == 0) = false := beq_eq_false_iff_ne.2 h0
      have k2 : (a0 == 2) = false := beq_eq_false_iff_ne.2 h2
      clear h0 h2
      have BX1 := Blk.new w 42 #[.int .i64 a0, .bool a1, .int .u64 a2, .int .i64 a3]
      have HE := encE_bd a3
      have HE2 := Lib.hid HE
      clear HE
      have HD := Lib.hid (fun W => digits4_calls (encE a3) HE2.out.1 HE2.out.2 W)
      have HD8 := Lib.hid (fun W => digits8_calls a2 hm0 hm1 W)
      go_enter Try.func60, Try.ntmps60
      cases a1
      · go_wp2_with (first
          | (at_builtin; first
            | (refine wpList_appB rfl (.tmp 22) (.tmp 25) rfl base _ xs rfl (HO1.alloc _) (w.heap.size + 1) 5 3 1 rfl (Blk.new1 w _ _ _) (by omega) (by simp; omega) ?_
               intro v3 W3 O3 hg3
               obtain ⟨A3, n3, c3, rfl⟩ := O3.form
               have HL3 := (HL1.alloc hb1 (.cells #[.int .u8 3] 5)).grown hg3 (by simp; omega) (fun k hk => (hO.lt k hk).1)
               have K3 := (K1.alloc (.cells #[.int .u8 3] 5)).app (HO1.alloc _) hg3
               have BX3 := (BX1.alloc _).grown hg3 (HO1.ne BX1 (by decide))
               have hb3 := Nat.le_trans hb HL3.size
               obtain ⟨⟨q0, q1, q2, q3⟩, _⟩ := BX3.c4)
            | (refine wpList_appS rfl (.tmp 27) (.tmp 30) rfl base _ _ rfl O4 _ _ 0 8 8 _ rfl S4 (by omega) (by simp; omega) hb4 ?_
               intro v5 W5 O5 hg5
               obtain ⟨A5, n5, c5, rfl⟩ := O5.form
               have HL5 := HL4.grown hg5 hb4 (fun k hk => (O4.lt k hk).1)
               have K5 := K4.app O4 hg5
               have BX5 := BX4.grown hg5 (O4.ne BX4 (by decide))
               have hb5 := Nat.le_trans hb HL5.size
               clear q0 q1 q2 q3
               obtain ⟨⟨q0, q1, q2, q3⟩, _⟩ := BX5.c4)
            | (refine wpList_appS rfl (.tmp 32) (.tmp 37) rfl base _ _ rfl O6 _ _ 0 4 4 _ rfl S6 (by omega) (by simp [wordB_length]; omega) hb6 ?_
               intro v7 W7 O7 hg7
               have HL7 := HL6.grown hg7 hb6 (fun k hk => (O6.lt k hk).1)
               have K7 := K6.app O6 hg7))
          | (go_at_call 88; first
            | ((with_reducible refine (HD8.out _).mono ?_); rintro e w4 ⟨rfl, D4, hb⟩; have S4 := digSl D4; have O4 := O3.call hb; have BX4 := BX3.call hb; have HL4 := HL3.trans (hb.mono hb3); have K4 := K3.below hb; have hb4 := Nat.le_trans hb3 hb.size; clear hb HD8)
            | ((refine (HD.out _).mono ?_); rintro e w6 ⟨rfl, D6, hb⟩; have S6 := digSl D6; have O6 := O5.call hb; have HL6 := HL5.trans (hb.mono hb5); have K6 := K5.below hb; have hb6 := Nat.le_trans hb5 hb.size; clear hb HD)))
        go_ret
        refine ⟨_, rfl, ?_, HL7, K7⟩
        simp only [List.append_assoc, List.cons_append, List.nil_append] at O7 ⊢
        exact O7
      · go_wp2_with (first
          | (at_builtin; first
            | (refine wpList_appB rfl (.tmp 22) (.tmp 25) rfl base _ xs rfl (HO1.alloc _) (w.heap.size + 1) 5 4 1 rfl (Blk.new1 w _ _ _) (by omega) (by simp; omega) ?_
               intro v3 W3 O3 hg3
               obtain ⟨A3, n3, c3, rfl⟩ := O3.form
               have HL3 := (HL1.alloc hb1 (.cells #[.int .u8 4] 5)).grown hg3 (by simp; omega) (fun k hk => (hO.lt k hk).1)
               have K3 := (K1.alloc (.cells #[.int .u8 4] 5)).app (HO1.alloc _) hg3
               have BX3 := (BX1.alloc _).grown hg3 (HO1.ne BX1 (by decide))
               have hb3 := Nat.le_trans hb HL3.size
               obtain ⟨⟨q0, q1, q2, q3⟩, _⟩ := BX3.c4)
            | (refine wpList_appS rfl (.tmp 27) (.tmp 30) rfl base _ _ rfl O4 _ _ 0 8 8 _ rfl S4 (by omega) (by simp; omega) hb4 ?_
               intro v5 W5 O5 hg5
               obtain ⟨A5, n5, c5, rfl⟩ := O5.form
               have HL5 := HL4.grown hg5 hb4 (fun k hk => (O4.lt k hk).1)
               have K5 := K4.app O4 hg5
               have BX5 := BX4.grown hg5 (O4.ne BX4 (by decide))
               have hb5 := Nat.le_trans hb HL5.size
               clear q0 q1 q2 q3
               obtain ⟨⟨q0, q1, q2, q3⟩, _⟩ := BX5.c4)
            | (refine wpList_appS rfl (.tmp 32) (.tmp 37) rfl base _ _ rfl O6 _ _ 0 4 4 _ rfl S6 (by omega) (by simp [wordB_length]; omega) hb6 ?_
               intro v7 W7 O7 hg7
               have HL7 := HL6.grown hg7 hb6 (fun k hk => (O6.lt k hk).1)
               have K7 := K6.app O6 hg7))
          | (go_at_call 88; first
            | ((with_reducible refine (HD8.out _).mono ?_); rintro e w4 ⟨rfl, D4, hb⟩; have S4 := digSl D4; have O4 := O3.call hb; have BX4 := BX3.call hb; have HL4 := HL3.trans (hb.mono hb3); have K4 := K3.below hb; have hb4 := Nat.le_trans hb3 hb.size; clear hb HD8)
            | ((refine (HD.out _).mono ?_); rintro e w6 ⟨rfl, D6, hb⟩; have S6 := digSl D6; have O6 := O5.call hb; have HL6 := HL5.trans (hb.mono hb5); have K6 := K5.below hb; have hb6 := Nat.le_trans hb5 hb.size; clear hb HD)))
        go_ret
        refine ⟨_, rfl, ?_, HL7, K7⟩
        simp only [List.append_assoc, List.cons_append, List.nil_append] at O7 ⊢
        exact O7
end Go.Proofs.Ytakajahogjeiaaa.Wk
