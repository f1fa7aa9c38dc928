/- Walks: the writer of package codec: sign, word. -/
import Derived.Test.YtakajahogjeiaabRegLib
import Derived.Test.YtakajahogjeiaabNumDef
import Derived.Deep.AppendLies
import Derived.Deep.RegionLaw
namespace Go.Proofs.Ytakajahogjeiaab.Wk
open Go.RowKit Go.Proofs.Pl Go.Proofs.YtakajahogjeiaabW.PrintLast
set_option linter.unusedSimpArgs false
set_option linter.unusedVariables false

theorem infoByte : (Try.prog.info? 5).map (fun i => (i.zero, i.size, i.bytes)) = some (some (.int .u8 0), 1, 1) := by kernel_rfl
/-- The cells of bytes. -/
def flatB (xs : List Int) : List Value := xs.map fun b => .int .u8 b
theorem flatB_app (xs ys : List Int) : flatB (xs ++ ys) = flatB xs ++ flatB ys := by simp [flatB]
theorem flatB_length (xs : List Int) : (flatB xs).length = xs.length := by simp [flatB]
/-- A slice of bytes that the call made. -/
def OwnB (w : World) (base : Nat) (v : Value) (xs : List Int) : Prop := w.ownsRow base 5 1 v xs.length (flatB xs)
theorem OwnB.lt {w : World} {base : Nat} {v : Value} {xs : List Int} (h : OwnB w base v xs) : ∀ k, v.ownBlock = some k → base ≤ k ∧ k < w.heap.size := World.ownsRow.lt h
theorem OwnB.nil (w : World) (base : Nat) : OwnB w base (.slice none 0 0) [] := World.ownsRow_nil _ _ _ _
theorem OwnB.same {w w' : World} {base : Nat} {v : Value} {xs : List Int} (h : OwnB w base v xs) (hk : ∀ g, v.ownBlock = some g → w'.heap[g]? = w.heap[g]?) : OwnB w' base v xs := by
  refine ⟨h.1, ?_⟩
  rcases h.2 with hn | ⟨g, cap, cur, rfl, hb, hgg, rest⟩
  · exact .inl hn
  · exact .inr ⟨g, cap, cur, rfl, hb, (hk g rfl).trans hgg, rest⟩
/-- The row lies in no block of another type. -/
theorem OwnB.ne {w : World} {base g : Nat} {v : Value} {xs : List Int} {t : TypeId} {cs : Array Value} (h : OwnB w base v xs) (hb : Blk w g t cs) (ht : t ≠ 5) : some g ≠ v.ownBlock := by
  rcases h.2 with ⟨rfl, _⟩ | ⟨g', cap, cur, rfl, _, hgg, _⟩
  · intro e; cases e
  · intro e
    cases e
    unfold Blk at hb
    rw [hb] at hgg
    cases hgg
    exact ht rfl

theorem OwnB.form {w : World} {base : Nat} {v : Value} {xs : List Int} (h : OwnB w base v xs) : ∃ A n c, v = .slice A n c := by
  rcases h.2 with ⟨rfl, _⟩ | ⟨g, cap, cur, rfl, _⟩
  · exact ⟨_, _, _, rfl⟩
  · exact ⟨_, _, _, rfl⟩
/-- What a method of the writer at block p keeps: each block of cells of another type than bytes, but p. -/
def Keep (p : Nat) (w w' : World) : Prop := ∀ k t cs, k ≠ p → t ≠ 5 → Blk w k t cs → Blk w' k t cs
theorem Keep.refl (p : Nat) (w : World) : Keep p w w := fun _ _ _ _ _ h => h
theorem Keep.trans {p : Nat} {a b c : World} (h : Keep p a b) (k : Keep p b c) : Keep p a c := fun g t cs h1 h2 hb => k g t cs h1 h2 (h g t cs h1 h2 hb)
theorem Keep.alloc {p : Nat} {a b : World} (h : Keep p a b) (o : Obj) : Keep p a (b.alloc o) := fun g t cs h1 h2 hb => (h g t cs h1 h2 hb).alloc o
theorem Keep.drew {p : Nat} {a b : World} (h : Keep p a b) : Keep p a b.drew := h
theorem Keep.store {p : Nat} {a b : World} (h : Keep p a b) (i : Nat) (v : Value) : Keep p a (b.setCell ⟨p, i, none⟩ v) := fun g t cs h1 h2 hb => (h g t cs h1 h2 hb).far (p := ⟨p, i, none⟩) h1 v
theorem Keep.below {p : Nat} {a b c : World} (h : Keep p a b) (hb : Below b.heap.size b c) : Keep p a c := fun g t cs h1 h2 k => (h g t cs h1 h2 k).call hb

/-- The writer's box at p: its bytes, in a row that the call made. -/
def Wr (w : World) (base p : Nat) (xs : List Int) : Prop := base ≤ p ∧ ∃ v, Blk w p 84 #[v] ∧ OwnB w base v xs
theorem Wr.below {w w' : World} {base p : Nat} {xs : List Int} (h : Wr w base p xs) (hb : Below w.heap.size w w') : Wr w' base p xs := by
  obtain ⟨h1, v, h2, h3⟩ := h
  exact ⟨h1, v, h2.call hb, h3.same fun g hg => hb.block g (h3.lt g hg).2⟩
theorem Wr.alloc {w : World} {base p : Nat} {xs : List Int} (h : Wr w base p xs) (o : Obj) : Wr (w.alloc o) base p xs := h.below ((Below.refl _ _).alloc (Nat.le_refl _) o)
theorem Wr.drew {w : World} {base p : Nat} {xs : List Int} (h : Wr w base p xs) : Wr w.drew base p xs := h

section
variable {ops : Array Oper} {o : Oper} {a : Act} {K : Act → World → Prop} {Q : Exit → Act → World → Prop} {w : World}
theorem lit_news {w : World} {B : Nat} {T : TypeId} {x : Int} (hb : Blk w B T #[.int .u8 x]) : ∀ j u, (flatB [x])[j]? = some u → w.cell? ((⟨B, 0, none⟩ : Addr).add j) = some u :=
  World.news_of_block (cs := #[.int .u8 x]) hb
/-- append of one byte to a row that the call owns. -/
theorem run_appB (ty : TypeId) (base : Nat) (v : Value) (xs : List Int) (hown : OwnB w base v xs) (g : Nat) (T : TypeId) (x : Int) (c : Nat) (hg : Blk w g T #[.int .u8 x]) (hsm : xs.length ≤ 1000000) (hbase : base ≤ w.heap.size) :
    ∃ v' w', (Builtin.append_ #[35, 35] ty #[v, .slice (some ⟨g, 0, none⟩) 1 c]).run Try.prog w = .ok v' w' ∧ OwnB w' base v' (xs ++ [x]) ∧ w.grownBy w' v.ownBlock := by
  obtain ⟨i0, hi, hz0, hz1, hz2⟩ := info_parts infoByte
  obtain ⟨v', w', hr, h2, h3, _, h5⟩ := run_append_own_at (P := Try.prog) w base 35 ty 5 i0 _ 1 1 Try.underlying35 hi hz0 hz1 hz2 rfl (by omega) v xs.length (flatB xs) hown ⟨g, 0, none⟩ 1 c (flatB [x]) (by simp [flatB]) (lit_news hg) (by simp [flatB, Value.oneCell']) (by simp only [maxLen]; omega) (by omega) hbase
  refine ⟨v', w', hr, ?_, h3⟩
  unfold OwnB
  rw [flatB_app, List.length_append]
  exact h2
theorem wp_appB (s x : Operand) (ho : o.op = .call { callee := .builtin .append, args := #[s, x], argTypes := #[35, 35] }) (base : Nat) (v : Value) (xs : List Int) (hs : a.eval s = v) (hown : OwnB w base v xs) (g : Nat) (T : TypeId) (y : Int) (c : Nat) (hx : a.eval x = .slice (some ⟨g, 0, none⟩) 1 c) (hg : Blk w g T #[.int .u8 y]) (hsm : xs.length ≤ 1000000) (hbase : base ≤ w.heap.size)
    (h : ∀ v' w', OwnB w' base v' (xs ++ [y]) → w.grownBy w' v.ownBlock → K (a.put o.dst v') w') : o.wp Try.prog a w K Q := by
  obtain ⟨v', w', hr, h2, h3⟩ := run_appB o.type base v xs hown g T y c hg hsm hbase
  unfold Oper.wp execOp
  simp only [ho, resolve, invoke, builtin, Sem.run_bind, Sem.run_pure, Result.andThen_ok, List.map_toArray, List.map_cons, List.map_nil, hs, hx, hr]
  exact h v' w' h2 h3
theorem step_appB {E : Prop} (hgd : o.guard = none) (s x : Operand) (ho : o.op = .call { callee := .builtin .append, args := #[s, x], argTypes := #[35, 35] }) (base : Nat) (v : Value) (xs : List Int) (hs : a.eval s = v) (hown : OwnB w base v xs) (g : Nat) (T : TypeId) (y : Int) (c : Nat) (hx : a.eval x = .slice (some ⟨g, 0, none⟩) 1 c) (hg : Blk w g T #[.int .u8 y]) (hsm : xs.length ≤ 1000000) (hbase : base ≤ w.heap.size)
    (h : ∀ v' w', OwnB w' base v' (xs ++ [y]) → w.grownBy w' v.ownBlock → K (a.put o.dst v') w') : if Region.wanted o (yielded ops a.tmps) = true then Oper.wp Try.prog o a w K Q else E := by
  have hw : Region.wanted o (yielded ops a.tmps) = true := by simp [Region.wanted, hgd]
  rw [if_pos hw]
  exact wp_appB s x ho base v xs hs hown g T y c hx hg hsm hbase h
theorem wpList_appB {rest : List Oper} (hgd : o.guard = none) (s x : Operand) (ho : o.op = .call { callee := .builtin .append, args := #[s, x], argTypes := #[35, 35] }) (base : Nat) (v : Value) (xs : List Int) (hs : a.eval s = v) (hown : OwnB w base v xs) (g : Nat) (T : TypeId) (y : Int) (c : Nat) (hx : a.eval x = .slice (some ⟨g, 0, none⟩) 1 c) (hg : Blk w g T #[.int .u8 y]) (hsm : xs.length ≤ 1000000) (hbase : base ≤ w.heap.size)
    (h : ∀ v' w', OwnB w' base v' (xs ++ [y]) → w.grownBy w' v.ownBlock → wpList Try.prog ops Q rest (a.put o.dst v') w') : wpList Try.prog ops Q (o :: rest) a w :=
  wpList_plain hgd fun _ hK => wp_appB s x ho base v xs hs hown g T y c hx hg hsm hbase fun v' w' h2 h3 => hK _ _ (h v' w' h2 h3)
end
/-- A byte appended, and stored in the writer. -/
theorem Keep.app {p base : Nat} {a b c : World} {v : Value} {xs : List Int} (h : Keep p a b) (ho : OwnB b base v xs) (hg : b.grownBy c v.ownBlock) : Keep p a c := fun g t cs h1 h2 k => by
  have kb := h g t cs h1 h2 k
  exact kb.grown hg (ho.ne kb h2)
theorem Blk.c1b {w : World} {g : Nat} {t : TypeId} {x0 : Value} (h : Blk w g t #[x0]) : w.cell? ⟨g, 0, none⟩ = some x0 ∧ w.frozen? ⟨g, 0, none⟩ = false := ⟨h.cell 0, h.frozen 0⟩
theorem Wr.stored {w : World} {base p : Nat} {v v' : Value} {xs : List Int} (hp : base ≤ p) (hb : Blk w p 84 #[v]) (ho : OwnB w base v' xs) : Wr (w.setCell ⟨p, 0, none⟩ v') base p xs := by
  refine ⟨hp, v', hb.set_ 0 v', ho.same fun g hg => ?_⟩
  exact Below.heap_setCell w ⟨p, 0, none⟩ v' g (fun e => (ho.ne hb (by decide)) (by rw [hg, e]))

set_option maxHeartbeats 800000 in
theorem sign_calls (m : Int) (b : Bool) (w : World) :
    Calls Try.prog 107 #[.int .u8 m, .bool b] w fun e w' => e = .returned (.int .u8 (if b = true then (m + 1) % 256 else m)) ∧ Below w.heap.size w w' := by
  go_enter Try.func107, Try.ntmps107
  cases b
  all_goals
    go_wp2
    all_goals go_ret
    all_goals exact ⟨by simp, Below.refl _ _⟩

/-- the i-th byte of a word of so many bytes -/
def byteAt (n : Int) (size i : Nat) : Int := IntKind.u8.wrap (n / 2 ^ (8 * (size - 1 - i)))
def wordB (n : Int) (size k : Nat) : List Int := (List.range k).map (byteAt n size)
theorem wordB_succ (n : Int) (size k : Nat) : wordB n size (k + 1) = wordB n size k ++ [byteAt n size k] := by simp [wordB, List.range_succ]
theorem wordB_length (n : Int) (size k : Nat) : (wordB n size k).length = k := by simp [wordB]

set_option maxRecDepth 100000 in
set_option maxHeartbeats 2000000 in
theorem word_calls (base p : Nat) (xs : List Int) (n : Int) (size : Nat) (hz : size ≤ 8) (w : World) (hW : Wr w base p xs) (hb : base ≤ w.heap.size) (hl : xs.length ≤ 900000) :
    Calls Try.prog 108 #[.pointer (some ⟨p, 0, none⟩), .int .u64 n, .int .i64 size] w fun e w' => (∃ v, e = .returned v) ∧ Wr w' base p (xs ++ wordB n size size) ∧ Keep p w w' ∧ Below base w w' := by
  have hpb := hW.1
  go_enter Try.func108, Try.ntmps108
  go_wp2
  go_loopw [6, 8] (fun _ i wr => ∃ k : Nat, k ≤ size ∧ i = .int .i64 k ∧ Wr wr base p (xs ++ wordB n size k) ∧ Keep p w wr ∧ Below base w wr) (fun _ i _ => size - (intOf i).toNat)
  case atStart => exact ⟨0, Nat.zero_le _, rfl, by simpa [wordB] using hW, Keep.refl _ _, Below.refl _ _⟩
  case round =>
    obtain ⟨k, hk, rfl, ⟨_, v, hB, hO⟩, hKp, hL⟩ := hrel
    by_cases hlt : k < size
    · obtain ⟨j, hj, hj8⟩ : ∃ j : Nat, size - 1 - k = j ∧ j < 8 := ⟨size - 1 - k, rfl, by omega⟩
      have hshr : Op.shift .shr .u64 n .i64 (IntKind.i64.wrap (8 * IntKind.i64.wrap (IntKind.i64.wrap ((size : Int) - 1) - (k : Int)))) = pure (.int .u64 (n / 2 ^ (8 * j))) := by
        have e : IntKind.i64.wrap (8 * IntKind.i64.wrap (IntKind.i64.wrap ((size : Int) - 1) - (k : Int))) = ((8 * j : Nat) : Int) := by
          simp only [i64_w]
          unfold wrap64
          omega
        rw [e, shift_shr .u64 .i64 n _ (by omega) (by simp [IntKind.bits]; omega), Int.toNat_natCast]
      have hby : byteAt n size k = IntKind.u8.wrap (n / 2 ^ (8 * j)) := by unfold byteAt; rw [hj]
      generalize n / 2 ^ (8 * j) = B at hshr hby
      have Hby := Lib.hid hby
      clear hby
      have hll : (xs ++ wordB n size k).length ≤ 1000000 := by rw [List.length_append, wordB_length]; omega
      obtain ⟨q0, f0⟩ := hB.c1b
      have HBx := hB.drew
      have HOx : OwnB wr.drew base v (xs ++ wordB n size k) := hO
      have hbs : base ≤ wr.heap.size := Nat.le_trans hb hL.size
      go_wp2_with fail
      refine start_ (n := 18) (S := fun w' => w'.cell? ⟨p, 0, none⟩ = some v ∧ True) (ds := [17]) #[false, false, false, false, false, false, false, false, false, false, false, false, false, false, false, false, false, false] (by kernel_rfl) rfl rfl ⟨HBx.cell 0, trivial⟩ (fun hHeld => ?_)
      refine pure_ (i := 0) (N := some 11) (v := ?_) (a' := ?_) #[true, false, false, false, false, false, false, false, false, false, false, false, false, false, false, false, false, false] rfl rfl (by kernel_rfl) (fun _ _ _ h => h) (Or.inl ⟨by rfl, ?_⟩) ?_ ?_
      rotate_left
      · intro w'
        go_simp
        with_reducible rfl
      rotate_left
      · simp only [Act.put, List.setIfInBounds_toArray, List.set_cons_zero, List.set_cons_succ]
        rfl
      refine pure_ (i := 1) (N := some 12) (v := ?_) (a' := ?_) #[true, true, false, false, false, false, false, false, false, false, false, false, false, false, false, false, false, false] rfl rfl (by kernel_rfl) (fun _ _ _ h => h) (Or.inl ⟨by rfl, ?_⟩) ?_ ?_
      rotate_left
      · intro w'
        go_simp
        with_reducible rfl
      rotate_left
      · simp only [Act.put, List.setIfInBounds_toArray, List.set_cons_zero, List.set_cons_succ]
        rfl
      refine pure_ (i := 2) (N := some 13) (v := ?_) (a' := ?_) #[true, true, true, false, false, false, false, false, false, false, false, false, false, false, false, false, false, false] rfl rfl (by kernel_rfl) (fun _ _ _ h => h) (Or.inl ⟨by rfl, ?_⟩) ?_ ?_
      rotate_left
      · intro w'
        go_simp
        with_reducible rfl
      rotate_left
      · simp only [Act.put, List.setIfInBounds_toArray, List.set_cons_zero, List.set_cons_succ]
        rfl
      refine pure_ (i := 3) (N := some 14) (v := ?_) (a' := ?_) #[true, true, true, true, false, false, false, false, false, false, false, false, false, false, false, false, false, false] rfl rfl (by kernel_rfl) (fun _ _ _ h => h) (Or.inl ⟨by rfl, ?_⟩) ?_ ?_
      rotate_left
      · intro w'
        go_simp
        with_reducible rfl
      rotate_left
      · simp only [Act.put, List.setIfInBounds_toArray, List.set_cons_zero, List.set_cons_succ]
        rfl
      refine take_ (i := 4) (N := some 15) (v := ?_) (a' := ?_) #[true, true, true, true, true, false, false, false, false, false, false, false, false, false, false, false, false, false] rfl rfl (by kernel_rfl) (fun _ _ _ h => h) (Or.inl ⟨by rfl, ?_⟩) hHeld ?_ ?_
      rotate_left
      · rintro w' ⟨s0_, s1_⟩
        go_simp
        with_reducible rfl
      rotate_left
      · simp only [Act.put, List.setIfInBounds_toArray, List.set_cons_zero, List.set_cons_succ]
        rfl
      refine pure_ (i := 5) (N := some 16) (v := ?_) (a' := ?_) #[true, true, true, true, true, true, false, false, false, false, false, false, false, false, false, false, false, false] rfl rfl (by kernel_rfl) (fun _ _ _ h => h) (Or.inl ⟨by rfl, ?_⟩) ?_ ?_
      rotate_left
      · intro w'
        go_simp
        with_reducible rfl
      rotate_left
      · simp only [Act.put, List.setIfInBounds_toArray, List.set_cons_zero, List.set_cons_succ]
        rfl
      refine pure_ (i := 6) (N := some 17) (v := ?_) (a' := ?_) #[true, true, true, true, true, true, true, false, false, false, false, false, false, false, false, false, false, false] rfl rfl (by kernel_rfl) (fun _ _ _ h => h) (Or.inl ⟨by rfl, ?_⟩) ?_ ?_
      rotate_left
      · intro w'
        go_simp
        with_reducible rfl
      rotate_left
      · simp only [Act.put, List.setIfInBounds_toArray, List.set_cons_zero, List.set_cons_succ]
        rfl
      refine pure_ (i := 7) (N := some 18) (v := ?_) (a' := ?_) #[true, true, true, true, true, true, true, true, false, false, false, false, false, false, false, false, false, false] rfl rfl (by kernel_rfl) (fun _ _ _ h => h) (Or.inl ⟨by rfl, ?_⟩) ?_ ?_
      rotate_left
      · intro w'
        go_simp
        with_reducible rfl
      rotate_left
      · simp only [Act.put, List.setIfInBounds_toArray, List.set_cons_zero, List.set_cons_succ]
        rfl
      refine pure_ (i := 8) (N := some 19) (v := ?_) (a' := ?_) #[true, true, true, true, true, true, true, true, true, false, false, false, false, false, false, false, false, false] rfl rfl (by kernel_rfl) (fun _ _ _ h => h) (Or.inl ⟨by rfl, ?_⟩) ?_ ?_
      rotate_left
      · intro w'
        go_simp
        with_reducible rfl
      rotate_left
      · simp only [Act.put, List.setIfInBounds_toArray, List.set_cons_zero, List.set_cons_succ]
        rfl
      refine pure_ (i := 9) (N := some 20) (v := ?_) (a' := ?_) #[true, true, true, true, true, true, true, true, true, true, false, false, false, false, false, false, false, false] rfl rfl (by kernel_rfl) (fun _ _ _ h => h) (Or.inl ⟨by rfl, ?_⟩) ?_ ?_
      rotate_left
      · intro w'
        go_simp
        with_reducible rfl
      rotate_left
      · simp only [Act.put, List.setIfInBounds_toArray, List.set_cons_zero, List.set_cons_succ]
        rfl
      refine pure_ (i := 10) (N := some 21) (v := ?_) (a' := ?_) #[true, true, true, true, true, true, true, true, true, true, true, false, false, false, false, false, false, false] rfl rfl (by kernel_rfl) (fun _ _ _ h => h) (Or.inl ⟨by rfl, ?_⟩) ?_ ?_
      rotate_left
      · intro w'
        go_simp
        with_reducible rfl
      rotate_left
      · simp only [Act.put, List.setIfInBounds_toArray, List.set_cons_zero, List.set_cons_succ]
        rfl
      refine pure_ (i := 11) (N := some 22) (v := ?_) (a' := ?_) #[true, true, true, true, true, true, true, true, true, true, true, true, false, false, false, false, false, false] rfl rfl (by kernel_rfl) (fun _ _ _ h => h) (Or.inl ⟨by rfl, ?_⟩) ?_ ?_
      rotate_left
      · intro w'
        go_simp
        with_reducible rfl
      rotate_left
      · simp only [Act.put, List.setIfInBounds_toArray, List.set_cons_zero, List.set_cons_succ]
        rfl
      refine pure_ (i := 12) (N := some 23) (v := ?_) (a' := ?_) #[true, true, true, true, true, true, true, true, true, true, true, true, true, false, false, false, false, false] rfl rfl (by kernel_rfl) (fun _ _ _ h => h) (Or.inl ⟨by rfl, ?_⟩) ?_ ?_
      rotate_left
      · intro w'
        go_simp
        with_reducible rfl
      rotate_left
      · simp only [Act.put, List.setIfInBounds_toArray, List.set_cons_zero, List.set_cons_succ]
        rfl
      refine one_ (i := 13) (N := some 24) #[true, true, true, true, true, true, true, true, true, true, true, true, true, true, false, false, false, false] rfl rfl (by kernel_rfl) (by decide) (fun K hK => ?_)
      refine value_ (v := ?_) (w1 := ?_) (by rfl) rfl ?_ ?_
      rotate_left 2
      · go_simp
        first | rfl | (constructor <;> rfl)
      have BL := (Blk.new wr 5 #[.int .u8 (IntKind.u8.wrap B)]).drew
      have HB2 := (hB.alloc (.cells #[.int .u8 (IntKind.u8.wrap B)] 5)).drew
      have HO2 : OwnB (wr.alloc (.cells #[.int .u8 (IntKind.u8.wrap B)] 5)).drew base v (xs ++ wordB n size k) := World.ownsRow.alloc hO _
      have HK2 : Keep p w (wr.alloc (.cells #[.int .u8 (IntKind.u8.wrap B)] 5)).drew := hKp.alloc _
      have HL2 := (hL.alloc hbs (.cells #[.int .u8 (IntKind.u8.wrap B)] 5)).drew
      refine hK.out _ _ ⟨HB2.cell 0, trivial⟩ (fun hHeld => ?_)
      clear hK K
      refine norm_ (a' := ?_) ?_ ?_
      rotate_left
      · show Act.put _ (some 24) _ = _
        simp only [Act.put, List.setIfInBounds_toArray, List.set_cons_zero, List.set_cons_succ]
        rfl
      have hbs2 : base ≤ (wr.alloc (.cells #[.int .u8 (IntKind.u8.wrap B)] 5)).drew.heap.size := Nat.le_trans hbs (by show wr.heap.size ≤ (wr.alloc _).heap.size; simp)
      generalize hW2 : (wr.alloc (.cells #[.int .u8 (IntKind.u8.wrap B)] 5)).drew = W2 at BL HB2 HO2 HK2 HL2 hbs2 hHeld ⊢
      refine one_ (i := 14) (N := some 25) #[true, true, true, true, true, true, true, true, true, true, true, true, true, true, true, false, false, false] rfl rfl (by kernel_rfl) (by decide) (fun K hK => ?_)
      refine step_appB (by rfl) (.tmp 15) (.tmp 24) (by rfl) base v (xs ++ wordB n size k) (by rfl) HO2 wr.heap.size 5 (IntKind.u8.wrap B) 1 (by rfl) BL hll hbs2 ?_
      intro v3 W3 O3 hg3
      obtain ⟨A3, n3, c3, rfl⟩ := O3.form
      have HB3 := HB2.grown hg3 (HO2.ne HB2 (by decide))
      have HK3 := HK2.app HO2 hg3
      have HL3 := HL2.grown hg3 hbs2 (fun k hk => (HO2.lt k hk).1)
      refine hK.out _ _ ⟨HB3.cell 0, trivial⟩ (fun hHeld => ?_)
      clear hK K
      refine norm_ (a' := ?_) ?_ ?_
      rotate_left
      · show Act.put _ (some 25) _ = _
        simp only [Act.put, List.setIfInBounds_toArray, List.set_cons_zero, List.set_cons_succ]
        rfl
      refine pure_ (i := 15) (N := some 26) (v := ?_) (a' := ?_) #[true, true, true, true, true, true, true, true, true, true, true, true, true, true, true, true, false, false] rfl rfl (by kernel_rfl) (fun _ _ _ h => h) (Or.inl ⟨by rfl, ?_⟩) ?_ ?_
      rotate_left
      · intro w'
        go_simp
        with_reducible rfl
      rotate_left
      · simp only [Act.put, List.setIfInBounds_toArray, List.set_cons_zero, List.set_cons_succ]
        rfl
      refine pure_ (i := 16) (N := some 27) (v := ?_) (a' := ?_) #[true, true, true, true, true, true, true, true, true, true, true, true, true, true, true, true, true, false] rfl rfl (by kernel_rfl) (fun _ _ _ h => h) (Or.inl ⟨by rfl, ?_⟩) ?_ ?_
      rotate_left
      · intro w'
        go_simp
        with_reducible rfl
      rotate_left
      · simp only [Act.put, List.setIfInBounds_toArray, List.set_cons_zero, List.set_cons_succ]
        rfl
      obtain ⟨q3, f3⟩ := HB3.c1b
      refine last_ (i := 17) (N := none) #[true, true, true, true, true, true, true, true, true, true, true, true, true, true, true, true, true, true] rfl rfl (by kernel_rfl) (by decide) (fun K hK => ?_)
      refine skip_ (w1 := ?_) (by rfl) rfl ?_ ?_
      rotate_left
      · go_simp
        rfl
      refine hK.out _ _ ?_
      clear hK K
      have HW4 := Wr.stored hpb HB3 O3
      have HK4 := HK3.store 0 (.slice A3 n3 c3)
      have HL4 := HL3.setCell (p := ⟨p, 0, none⟩) hpb (.slice A3 n3 c3)
      refine done_ (by kernel_rfl) ?_
      go_wp2
      go_roundw
      case rel => exact ⟨k + 1, by omega, by go_num, by rw [wordB_succ, Hby.out, ← List.append_assoc]; exact HW4, HK4, HL4⟩
      case measure => simp [intOf] <;> omega
    · have hkn : size = k := by omega
      subst hkn
      go_wp2
      go_end0
      exact ⟨⟨_, rfl⟩, ⟨hpb, v, hB, hO⟩, hKp, hL⟩
end Go.Proofs.Ytakajahogjeiaab.Wk
