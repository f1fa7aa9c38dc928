/- Walks: slices.Repeat at an interval, box.Fair. -/
import Derived.Test.YtagojbgmgkkdpaaBoxA
import Derived.Test.YtagojbgmgkkdpaaArW
import Derived.Laws.CopyRow
import Derived.Laws.MakeOwn
import Derived.Deep.RegionLaw
namespace Go.Proofs.Ytagojbgmgkkdpaa.Wk
open Go.RowKit Go.Proofs.Pl Go.Proofs.YtagojbgmgkkdpaaW.PrintLast
set_option linter.unusedSimpArgs false
set_option linter.unusedVariables false

theorem bitsMul_calls (x y : Nat) (hx : x < 18446744073709551616) (hy : y < 18446744073709551616) (w : World) :
    Calls Try.prog 116 #[.int .u64 x, .int .u64 y] w fun e w' => e = .returned (.tuple #[.int .u64 ((x * y / 18446744073709551616 : Nat) : Int), .int .u64 ((x * y % 18446744073709551616 : Nat) : Int)]) ∧ Below w.heap.size w w' := by
  have HM := Lib.hid (fun W => mul64_calls x y hx hy W)
  go_enter Try.func116, Try.ntmps116
  go_wp2_with (go_at_call 128; (refine (HM.out _).mono ?_); rintro e' w1 ⟨rfl, hb⟩)
  go_ret2
  exact ⟨rfl, hb⟩

section
variable {w : World}
theorem run_copyI (ty : TypeId) (g o dLen dCap : Nat) (A : Addr) (sLen sCap : Nat) (cur : Array Value) (t : TypeId) (ys : List Iv) (hg : w.heap[g]? = some (.cells cur t (0, 0))) (hn : ys.length = Nat.min sLen dLen)
    (hsrc : ∀ j v, (flatI ys)[j]? = some v → w.cell? (A.add j) = some v) (hfit : o + ys.length * 9 ≤ cur.size) :
    (Builtin.copy_ #[41, 41] ty #[.slice (some ⟨g, o, none⟩) dLen dCap, .slice (some A) sLen sCap]).run Try.prog w =
      .ok (goInt ys.length) (w.setRow g (cur.toList.take o ++ flatI ys ++ cur.toList.drop (o + (flatI ys).length)).toArray) := by
  obtain ⟨i0, hi, hz0, hz1, hz2⟩ := info_parts infoIv
  have hl := run_loadCells_list (P := Try.prog) w A (flatI ys) hsrc
  have hst := run_storeCells_at Try.prog g o t (flatI ys) 0 cur w hg (by rw [flatI_length, Nat.add_zero]; exact hfit) (flatI_one ys)
  rw [flatI_length] at hl
  rw [Nat.add_zero] at hst
  simp [Builtin.copy_, run_underlying Try.underlying41, Builtin.lenOf, Builtin.firstCells, sizeOf, typeInfo, hi, hz1, ← hn, hl, hst]
variable {ops : Array Oper} {rest : List Oper} {o : Oper} {a : Act} {K : Act → World → Prop} {Q : Exit → Act → World → Prop}
theorem wpList_copyI (hgd : o.guard = none) (d s : Operand) (ho : o.op = .call { callee := .builtin .copy, args := #[d, s], argTypes := #[41, 41] }) (g off dLen dCap : Nat) (A : Addr) (sLen sCap : Nat) (hd : a.eval d = .slice (some ⟨g, off, none⟩) dLen dCap) (hs : a.eval s = .slice (some A) sLen sCap)
    (cur : Array Value) (hg : Blk w g 26 cur) (ys : List Iv) (hn : ys.length = Nat.min sLen dLen) (hsrc : ∀ j v, (flatI ys)[j]? = some v → w.cell? (A.add j) = some v) (hfit : off + ys.length * 9 ≤ cur.size)
    (h : ∀ W1, Blk W1 g 26 (cur.toList.take off ++ flatI ys ++ cur.toList.drop (off + (flatI ys).length)).toArray → Put w W1 g → wpList Try.prog ops Q rest (a.put o.dst (goInt ys.length)) W1) : wpList Try.prog ops Q (o :: rest) a w :=
  wpList_plain hgd fun _ hK => by
    have hr := run_copyI (w := w) o.type g off dLen dCap A sLen sCap cur 26 ys hg hn hsrc hfit
    unfold Oper.wp execOp
    simp only [ho, resolve, invoke, builtin, Sem.run_bind, Sem.run_pure, Result.andThen_ok, List.map_toArray, List.map_cons, List.map_nil, hd, hs, hr]
    exact hK _ _ (h _ (setRow_heap w g _ _ 26 (0, 0) hg) (Put.row w g _))
theorem wpList_makeI (hgd : o.guard = none) (x y : Operand) (ho : o.op = .makeSlice 41 x y) (n : Nat) (hx : a.eval x = .int .i64 n) (hy : a.eval y = .int .i64 n) (hn : n ≤ 1000000)
    (h : ∀ W1 cs, cs.size = n * 9 → Blk W1 w.heap.size 26 cs → Below w.heap.size w W1 → wpList Try.prog ops Q rest (a.put o.dst (.slice (some ⟨w.heap.size, 0, none⟩) n n)) W1) : wpList Try.prog ops Q (o :: rest) a w :=
  wpList_plain hgd fun _ hK => by
    obtain ⟨i0, hi, hz0, hz1, hz2⟩ := info_parts infoIv
    have hr := run_make (P := Try.prog) w 41 26 i0 _ Try.underlying41 hi hz0 .i64 .i64 n n (by omega) (by omega) (by rw [hz2]; omega) (by omega)
    simp only [Int.toNat_natCast] at hr
    unfold Oper.wp execOp
    simp only [ho, hx, hy, Sem.run_bind, hr, Result.andThen_ok]
    exact hK _ _ (h _ _ (by rw [size_madeCells, hz1]) (Blk.new w _ _) ((Below.refl _ _).alloc (Nat.le_refl _) _))
end
theorem step_copyI {w : World} {ops : Array Oper} {o : Oper} {a : Act} {K : Act → World → Prop} {Q : Exit → Act → World → Prop} {E : Prop} (hgd : o.guard = none) (d s : Operand) (ho : o.op = .call { callee := .builtin .copy, args := #[d, s], argTypes := #[41, 41] }) (g off dLen dCap : Nat) (A : Addr) (sLen sCap : Nat) (dp : Option Addr) (hd : a.eval d = .slice dp dLen dCap) (hdp : dp = some ⟨g, off, none⟩) (hs : a.eval s = .slice (some A) sLen sCap)
    (cur : Array Value) (hg : Blk w g 26 cur) (ys : List Iv) (hn : ys.length = Nat.min sLen dLen) (hsrc : ∀ j v, (flatI ys)[j]? = some v → w.cell? (A.add j) = some v) (hfit : off + ys.length * 9 ≤ cur.size)
    (h : ∀ W1, Blk W1 g 26 (cur.toList.take off ++ flatI ys ++ cur.toList.drop (off + (flatI ys).length)).toArray → Put w W1 g → K (a.put o.dst (goInt ys.length)) W1) : if Region.wanted o (yielded ops a.tmps) = true then Oper.wp Try.prog o a w K Q else E := by
  subst hdp
  have hw : Region.wanted o (yielded ops a.tmps) = true := by simp [Region.wanted, hgd]
  rw [if_pos hw]
  have hr := run_copyI (w := w) o.type g off dLen dCap A sLen sCap cur 26 ys hg hn hsrc hfit
  unfold Oper.wp execOp
  simp only [ho, resolve, invoke, builtin, Sem.run_bind, Sem.run_pure, Result.andThen_ok, List.map_toArray, List.map_cons, List.map_nil, hd, hs, hr]
  exact h _ (setRow_heap w g _ _ 26 (0, 0) hg) (Put.row w g _)
theorem flatI_repl (k : Nat) (x : Iv) : (flatI (List.replicate k x)).length = k * 9 := by rw [flatI_length, List.length_replicate]
theorem flatI_add (k m : Nat) (x : Iv) : flatI (List.replicate k x) ++ flatI (List.replicate m x) = flatI (List.replicate (k + m) x) := by rw [← flatI_app, List.replicate_append_replicate]
/-- the first k are x -/
def Filled (W : World) (G n k : Nat) (x : Iv) : Prop := ∃ rest : List Value, rest.length = (n - k) * 9 ∧ Blk W G 26 (flatI (List.replicate k x) ++ rest).toArray
theorem Filled.step {W1 : World} {G n k m : Nat} {x : Iv} (rest : List Value) (hr : rest.length = (n - k) * 9) (hm : m ≤ n - k)
    (h : Blk W1 G 26 ((flatI (List.replicate k x) ++ rest).toArray.toList.take (k * 9) ++ flatI (List.replicate m x) ++ (flatI (List.replicate k x) ++ rest).toArray.toList.drop (k * 9 + (flatI (List.replicate m x)).length)).toArray) : Filled W1 G n (k + m) x := by
  refine ⟨rest.drop (m * 9), by rw [List.length_drop, hr]; omega, ?_⟩
  have e1 : (flatI (List.replicate k x) ++ rest).take (k * 9) = flatI (List.replicate k x) := List.take_left' (flatI_repl k x)
  have e2 : (flatI (List.replicate k x) ++ rest).drop (k * 9 + m * 9) = rest.drop (m * 9) := by
    rw [List.drop_append, flatI_repl, List.drop_of_length_le (by rw [flatI_repl]; omega), List.nil_append]
    congr 1; omega
  simp only [List.toList_toArray] at h
  rw [flatI_repl, e1, e2, flatI_add] at h
  exact h
theorem Filled.own {W : World} {G n base : Nat} {x : Iv} (h : Filled W G n n x) (hb : base ≤ G) (hn : n ≤ 1000000) : OwnI W base (.slice (some ⟨G, 0, none⟩) n n) (List.replicate n x) := by
  obtain ⟨rest, hr, hB⟩ := h
  have h0 : rest = [] := List.eq_nil_of_length_eq_zero (by rw [hr]; omega)
  subst h0
  refine ⟨by rw [flatI_length], .inr ⟨G, n, _, by rw [List.length_replicate], hb, hB, by rw [List.length_replicate]; exact Nat.le_refl _, by simp only [maxLen]; omega, by simp [flatI_repl], ?_⟩⟩
  rw [List.length_replicate, List.append_nil, List.toList_toArray]
  exact List.take_of_length_le (by rw [flatI_repl]; exact Nat.le_refl _)
set_option maxRecDepth 100000 in
set_option maxHeartbeats 4000000 in
theorem repeat_calls (A : Addr) (c n : Nat) (x : Iv) (w : World) (hs : SlI w w.heap.size (some A) 1 [x]) (hn : n ≤ 1000) :
    Calls Try.prog 82 #[.slice (some A) 1 c, .int .i64 n] w fun e w' => ∃ v, e = .returned v ∧ OwnI w' w.heap.size v (List.replicate n x) ∧ Below w.heap.size w w' := by
  have HM := Lib.hid (fun W => bitsMul_calls 1 n (by omega) (by omega) W)
  rw [Nat.one_mul, Nat.div_eq_of_lt (by omega), Nat.mod_eq_of_lt (by omega)] at HM
  have HB0 := Below.refl w.heap.size w
  have HS := Lib.hid hs
  clear hs
  have hn0 : (0 : Int) ≤ n := by omega
  have hn1 : (n : Int) ≤ 1000 := by omega
  obtain ⟨m0, hm0⟩ : ∃ m0, m0 = Nat.min 1 n := ⟨_, rfl⟩
  have hm1 : m0 ≤ n ∧ m0 ≤ 1 ∧ (0 < n → 0 < m0) := by rw [hm0]; simp only [Nat.min_def]; split <;> omega
  have Hm0 := Lib.hid hm0
  have Hm1 := Lib.hid hm1
  clear hm0 hm1
  go_enter Try.func82, Try.ntmps82
  go_wp2_with (first
    | (go_at_call 116; (refine (HM.out _).mono ?_); rintro e' w1 ⟨rfl, hb⟩; have HB1 := bl_trans HB0 hb; clear hb)
    | (refine wpList_makeI rfl (.tmp 29) (.tmp 29) rfl n rfl rfl (by omega) ?_; intro W2 cs hcs B2 hb2; have HB2 := bl_trans HB1 hb2; have hG := HB1.size; have Hcs := Lib.hid hcs; clear hcs hb2)
    | (refine wpList_copyI rfl (.tmp 31) (.tmp 32) rfl w1.heap.size 0 n n A 1 c rfl rfl cs B2 (List.replicate m0 x) (by rw [List.length_replicate]; exact Hm0.out) (fun j v hj => ((HS.out.below HB2).flat j v (by have h1 := Hm1.out; have h2 : m0 = 0 ∨ m0 = 1 := (by omega); rcases h2 with h2 | h2 <;> rw [h2] at hj <;> first | (simp [flatI] at hj; done) | exact hj))) (by rw [List.length_replicate, Hcs.out]; have := Hm1.out; omega) ?_
       intro W3 B3 P3
       have HB3 := P3.bel HB2 hG
       have F3 : Filled W3 w1.heap.size n m0 x := by
         refine ⟨cs.toList.drop (m0 * 9), by rw [List.length_drop, Array.length_toList, Hcs.out]; omega, ?_⟩
         rw [flatI_repl, List.take_zero, List.nil_append, Nat.zero_add] at B3
         exact B3
       clear B3 P3))
  generalize w1.heap.size = G at F3 hG
  clear B2 HB2 HB1 HM HS Hm0
  go_loopw [8] (fun i wr => ∃ k : Nat, (k ≤ n ∧ (0 < n → 0 < k)) ∧ i = .int .i64 k ∧ Filled wr G n k x ∧ Below w.heap.size w wr) (fun i _ => n - (intOf i).toNat)
  case atStart => exact ⟨m0, ⟨Hm1.out.1, Hm1.out.2.2⟩, rfl, F3, HB3⟩
  case round =>
    obtain ⟨k, ⟨hk, hk0⟩, rfl, F, HB⟩ := hrel
    have HF := Lib.hid F
    have Hk0 := Lib.hid hk0
    clear F hk0 F3 HB3
    by_cases hlt : k < n
    · obtain ⟨m, hm⟩ : ∃ m, m = Nat.min k (n - k) := ⟨_, rfl⟩
      have hm1 : m ≤ n - k ∧ m ≤ k ∧ 0 < m := by
        have := Hk0.out
        rw [hm]; simp only [Nat.min_def]; split <;> omega
      have Hm := Lib.hid hm
      obtain ⟨hm2, hm3, hm4⟩ := hm1
      obtain ⟨rest, hr, hB⟩ := HF.out
      have HR := Lib.hid hr
      clear hm HF hr
      go_wp2_with fail
      have hnk : ¬ n = k := by omega
      have hB' := hB.drew
      have HB' := bl_drew HB
      refine start_ (n := 10) (S := fun w' => True) (ds := []) #[false, false, false, false, false, false, false, false, false, false] (by kernel_rfl) rfl rfl trivial (fun hHeld => ?_)
      generalize wr.drew = W4 at hB' HB' hHeld ⊢
      refine pure_ (i := 0) (N := some 38) (v := ?_) (a' := ?_) #[true, false, false, false, false, false, false, false, false, false] rfl rfl (by kernel_rfl) (fun _ _ _ h => h) (Or.inl ⟨by rfl, ?_⟩) ?_ ?_
      rotate_left
      · intro w'
        go_simp
        with_reducible rfl
      rotate_left
      · simp only [Act.put, List.setIfInBounds_toArray, List.set_cons_zero, List.set_cons_succ]
        rfl
      refine pure_ (i := 1) (N := some 39) (v := ?_) (a' := ?_) #[true, true, false, false, false, false, false, false, false, false] rfl rfl (by kernel_rfl) (fun _ _ _ h => h) (Or.inl ⟨by rfl, ?_⟩) ?_ ?_
      rotate_left
      · intro w'
        go_simp
        with_reducible rfl
      rotate_left
      · simp only [Act.put, List.setIfInBounds_toArray, List.set_cons_zero, List.set_cons_succ]
        rfl
      refine pure_ (i := 2) (N := some 40) (v := ?_) (a' := ?_) #[true, true, true, false, false, false, false, false, false, false] rfl rfl (by kernel_rfl) (fun _ _ _ h => h) (Or.inl ⟨by rfl, ?_⟩) ?_ ?_
      rotate_left
      · intro w'
        go_simp
        with_reducible rfl
      rotate_left
      · simp only [Act.put, List.setIfInBounds_toArray, List.set_cons_zero, List.set_cons_succ]
        rfl
      refine pure_ (i := 3) (N := some 41) (v := ?_) (a' := ?_) #[true, true, true, true, false, false, false, false, false, false] rfl rfl (by kernel_rfl) (fun _ _ _ h => h) (Or.inl ⟨by rfl, ?_⟩) ?_ ?_
      rotate_left
      · intro w'
        go_simp
        with_reducible rfl
      rotate_left
      · simp only [Act.put, List.setIfInBounds_toArray, List.set_cons_zero, List.set_cons_succ]
        rfl
      refine pure_ (i := 4) (N := some 42) (v := ?_) (a' := ?_) #[true, true, true, true, true, false, false, false, false, false] rfl rfl (by kernel_rfl) (fun _ _ _ h => h) (Or.inl ⟨by rfl, ?_⟩) ?_ ?_
      rotate_left
      · intro w'
        go_simp
        with_reducible rfl
      rotate_left
      · simp only [Act.put, List.setIfInBounds_toArray, List.set_cons_zero, List.set_cons_succ]
        rfl
      refine pure_ (i := 5) (N := some 43) (v := ?_) (a' := ?_) #[true, true, true, true, true, true, false, false, false, false] rfl rfl (by kernel_rfl) (fun _ _ _ h => h) (Or.inl ⟨by rfl, ?_⟩) ?_ ?_
      rotate_left
      · intro w'
        go_simp
        with_reducible rfl
      rotate_left
      · simp only [Act.put, List.setIfInBounds_toArray, List.set_cons_zero, List.set_cons_succ]
        rfl
      refine pure_ (i := 6) (N := some 44) (v := ?_) (a' := ?_) #[true, true, true, true, true, true, true, false, false, false] rfl rfl (by kernel_rfl) (fun _ _ _ h => h) (Or.inl ⟨by rfl, ?_⟩) ?_ ?_
      rotate_left
      · intro w'
        go_simp
        with_reducible rfl
      rotate_left
      · simp only [Act.put, List.setIfInBounds_toArray, List.set_cons_zero, List.set_cons_succ]
        rfl
      refine one_ (i := 7) (N := some 45) #[true, true, true, true, true, true, true, true, false, false] rfl rfl (by kernel_rfl) (by decide) (fun K hK => ?_)
      refine step_copyI (by rfl) (.tmp 41) (.tmp 44) (by rfl) G (k * 9) (n - k) (n - k) ⟨G, 0, none⟩ k n _ (by rfl) (by first | rfl | exact if_neg hnk) (by rfl) _ hB' (List.replicate m x) (by rw [List.length_replicate]; exact Hm.out) ?_ ?_ ?_
      · intro j v hj
        rw [addAt', Nat.zero_add, hB'.cell j]
        have hj2 : j < m * 9 := by rw [← flatI_repl m x]; exact (List.getElem?_eq_some_iff.1 hj).1
        rw [List.getElem?_toArray, List.getElem?_append_left (by rw [flatI_repl]; omega), ← hj]
        rw [flatI_get, flatI_get, List.getElem?_replicate, List.getElem?_replicate, if_pos (by omega), if_pos (by omega)]
      · rw [List.length_replicate, List.size_toArray, List.length_append, flatI_repl, HR.out]
        omega
      intro W5 B5 P5
      have F5 := Filled.step rest HR.out hm2 B5
      have HB5 := P5.bel HB' hG
      clear B5 P5
      have e0 : goInt (List.replicate m x).length = .int .i64 m := by rw [List.length_replicate]; rfl
      rw [e0]
      clear e0
      refine hK.out _ _ trivial (fun hHeld => ?_)
      clear hK K
      refine norm_ (a' := ?_) ?_ ?_
      rotate_left
      · show Act.put _ (some 45) _ = _
        simp only [Act.put, List.setIfInBounds_toArray, List.set_cons_zero, List.set_cons_succ]
        rfl
      refine pure_ (i := 8) (N := some 46) (v := ?_) (a' := ?_) #[true, true, true, true, true, true, true, true, true, false] rfl rfl (by kernel_rfl) (fun _ _ _ h => h) (Or.inl ⟨by rfl, ?_⟩) ?_ ?_
      rotate_left
      · intro w'
        go_simp
        with_reducible rfl
      rotate_left
      · simp only [Act.put, List.setIfInBounds_toArray, List.set_cons_zero, List.set_cons_succ]
        rfl
      refine pure_ (i := 9) (N := some 8) (v := ?_) (a' := ?_) #[true, true, true, true, true, true, true, true, true, true] rfl rfl (by kernel_rfl) (fun _ _ _ h => h) (Or.inl ⟨by rfl, ?_⟩) ?_ ?_
      rotate_left
      · intro w'
        go_simp
        with_reducible rfl
      rotate_left
      · simp only [Act.put, List.setIfInBounds_toArray, List.set_cons_zero, List.set_cons_succ]
        rfl
      refine done_ (by kernel_rfl) ?_
      go_wp2
      have hw : IntKind.i64.wrap ((k : Int) + (m : Int)) = ((k + m : Nat) : Int) := by rw [IntKind.wrap_i64]; omega
      go_roundw
      case rel => exact ⟨k + m, ⟨by omega, fun _ => by omega⟩, by rw [hw], F5, HB5⟩
      case measure => rw [hw]; simp only [intOf, Int.toNat_natCast]; omega
    · obtain rfl : k = n := by omega
      go_wp2
      go_ret
      exact ⟨_, rfl, HF.out.own hG (by omega), HB⟩
theorem SlI.lit1 {w : World} {g B : Nat} {T : TypeId} {x : Iv} (h : Blk w g T (ivCells x).toArray) (hB : g < B) : SlI w B (some ⟨g, 0, none⟩) 1 [x] := by
  refine SlI.ofFlat rfl hB fun j u hu => ?_
  rw [Nat.zero_add, h.cell j]
  simpa [flatI] using hu
set_option maxRecDepth 100000 in
set_option maxHeartbeats 4000000 in
theorem fairB_calls (A : Option Addr) (n c : Nat) (xs : List Iv) (w : World) (hs : SlI w w.heap.size A n xs) (hn : n ≤ 1000) :
    Calls Try.prog 38 #[.slice A n c] w fun e w' => ∃ v, e = .returned v ∧ OwnI w' w.heap.size v (fairB xs) ∧ Below w.heap.size w w' := by
  have HE := Lib.hid (emptyB_calls A n c xs w hs hn)
  have HS := Lib.hid hs
  unfold fairB
  have hl := hs.1
  have HC := Lib.hid (fun W (h : SlI W W.heap.size A n xs) => clone_calls A n c xs W h hn)
  have HR := Lib.hid (fun A W (h : SlI W W.heap.size (some A) 1 [noneI]) => repeat_calls A 1 n noneI W h hn)
  rw [hl]
  clear hs hl
  generalize emptyB xs = p at HE ⊢
  cases p
  · rw [if_neg (by simp)]
    go_enter Try.func38, Try.ntmps38
    go_wp2_with (first
      | (go_at_call 40; (refine HE.out.mono ?_); rintro e' w1 ⟨rfl, hb1⟩)
      | (go_at_call 83; (refine (HC.out _ (HS.out.on hb1)).mono ?_); rintro e' w2 ⟨v, rfl, ho, hb2⟩))
    go_ret
    exact ⟨v, rfl, ⟨ho.1, ho.2.imp id (fun ⟨g, cap, cur, h1, h2, h3⟩ => ⟨g, cap, cur, h1, Nat.le_trans hb1.size h2, h3⟩)⟩, bl_trans hb1 hb2⟩
  · rw [if_pos rfl]
    go_enter Try.func38, Try.ntmps38
    go_wp2_with (first
      | (go_at_call 40; (refine HE.out.mono ?_); rintro e' w1 ⟨rfl, hb1⟩)
      | (go_at_call 58; (refine (noneI_lit _).mono ?_); rintro e' w2 ⟨rfl, hb2⟩; have HB2 := bl_trans hb1 hb2; clear hb1 hb2)
      | (go_at_call 82; (refine (HR.out _ _ (SlI.lit1 (Blk.new w2 26 #[.bool true, .int .i64 0, .bool false, .int .u64 0, .int .i64 0, .int .i64 0, .bool false, .int .u64 0, .int .i64 0]) (by simp))).mono ?_); rintro e' w3 ⟨v, rfl, ho, hb3⟩; have HB3 := bl_alloc HB2 (.cells #[.bool true, .int .i64 0, .bool false, .int .u64 0, .int .i64 0, .int .i64 0, .bool false, .int .u64 0, .int .i64 0] 26)))
    go_ret
    exact ⟨v, rfl, ⟨ho.1, ho.2.imp id (fun ⟨g, cap, cur, h1, h2, h3⟩ => ⟨g, cap, cur, h1, Nat.le_trans HB3.size h2, h3⟩)⟩, bl_trans HB3 hb3⟩
end Go.Proofs.Ytagojbgmgkkdpaa.Wk
