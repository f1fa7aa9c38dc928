/- Walk: peloruslaw21.awake; appends of spots. -/
import Derived.Test.YtakajahogjeiaaaDegW
import Derived.Deep.AppendLies
import Derived.Deep.RegionLaw
namespace Go.Proofs.Ytakajahogjeiaaa.Wk
open Go.RowKit Go.Proofs.YtakajahogjeiaaaW.PrintLast
set_option linter.unusedSimpArgs false
set_option linter.unusedVariables false

theorem SlP.lit4 {w : World} {g B : Nat} {T : TypeId} {a b c d : Deg.S} (h : Blk w g T #[.int .i64 a.1, .int .i64 a.2, .int .i64 b.1, .int .i64 b.2, .int .i64 c.1, .int .i64 c.2, .int .i64 d.1, .int .i64 d.2]) (hB : g < B) :
    SlP w B (some ⟨g, 0, none⟩) 4 [a, b, c, d] := by
  refine ⟨rfl, fun _ => ⟨g, 0, rfl, hB, fun i z hz => ?_⟩⟩
  match i, hz with
  | 0, hz =>
    simp only [List.getElem?_cons_zero, Option.some.injEq] at hz
    subst hz
    exact ⟨h.cell 0, h.cell 1⟩
  | 1, hz =>
    simp only [List.getElem?_cons_succ, List.getElem?_cons_zero, Option.some.injEq] at hz
    subst hz
    exact ⟨h.cell 2, h.cell 3⟩
  | 2, hz =>
    simp only [List.getElem?_cons_succ, List.getElem?_cons_zero, Option.some.injEq] at hz
    subst hz
    exact ⟨h.cell 4, h.cell 5⟩
  | 3, hz =>
    simp only [List.getElem?_cons_succ, List.getElem?_cons_zero, Option.some.injEq] at hz
    subst hz
    exact ⟨h.cell 6, h.cell 7⟩
  | i + 4, hz => simp at hz
theorem SlP.lit2 {w : World} {g B : Nat} {T : TypeId} {a b : Deg.S} (h : Blk w g T #[.int .i64 a.1, .int .i64 a.2, .int .i64 b.1, .int .i64 b.2]) (hB : g < B) :
    SlP w B (some ⟨g, 0, none⟩) 2 [a, b] := by
  refine ⟨rfl, fun _ => ⟨g, 0, rfl, hB, fun i z hz => ?_⟩⟩
  match i, hz with
  | 0, hz =>
    simp only [List.getElem?_cons_zero, Option.some.injEq] at hz
    subst hz
    exact ⟨h.cell 0, h.cell 1⟩
  | 1, hz =>
    simp only [List.getElem?_cons_succ, List.getElem?_cons_zero, Option.some.injEq] at hz
    subst hz
    exact ⟨h.cell 2, h.cell 3⟩
  | i + 2, hz => simp at hz

theorem OwnP.kept {w w' : World} {base : Nat} {v : Value} {xs : List Deg.S} {row : Option Nat} (h : OwnP w base v xs) (hg : w.grownBy w' row) (hne : v.ownBlock = none ∨ v.ownBlock ≠ row) : OwnP w' base v xs := World.ownsRow.kept h hg hne
theorem spot_news {w : World} {B : Nat} {T : TypeId} {x y : Int} (hb : Blk w B T #[.int .i64 x, .int .i64 y]) : ∀ j u, [Value.int .i64 x, .int .i64 y][j]? = some u → w.cell? ((⟨B, 0, none⟩ : Addr).add j) = some u :=
  World.news_of_block (cs := #[.int .i64 x, .int .i64 y]) hb
theorem SlP.grown {w w' : World} {B n : Nat} {A : Option Addr} {xs : List Deg.S} {row : Option Nat} (h : SlP w B A n xs) (hg : w.grownBy w' row) (hB : B ≤ w.heap.size) (hr : ∀ k, row = some k → B ≤ k) : SlP w' B A n xs :=
  h.keep fun b o hlt => hg.cell_far ⟨b, o, none⟩ (by show b < w.heap.size; omega) (fun e => by have := hr _ e.symm; dsimp only at this; omega)
section
variable {ops : Array Oper} {o : Oper} {a : Act} {K : Act → World → Prop} {Q : Exit → Act → World → Prop} {w : World}
/-- append of a slice of spots to one that the call owns. -/
theorem run_app (ty : TypeId) (base : Nat) (v : Value) (xs : List Deg.S) (hown : OwnP w base v xs) (B b off m c : Nat) (ys : List Deg.S) (hys : SlP w B (some ⟨b, off, none⟩) m ys) (hsm : xs.length + m ≤ 1000) (hbase : base ≤ w.heap.size) :
    ∃ v' w', (Builtin.append_ #[22, 22] ty #[v, .slice (some ⟨b, off, none⟩) m c]).run Try.prog w = .ok v' w' ∧ OwnP w' base v' (xs ++ ys) ∧ w.grownBy w' v.ownBlock ∧ (v'.ownBlock = v.ownBlock ∨ v'.ownBlock = some w.heap.size) := by
  obtain ⟨i0, hi, hz0, hz1, hz2⟩ := info_parts infoSpot
  obtain ⟨v', w', hr, h2, h3, _, h5⟩ := run_append_own_at (P := Try.prog) w base 22 ty 25 i0 _ 2 16 Try.underlying22 hi hz0 hz1 hz2 rfl (by omega) v xs.length (flatP xs) hown ⟨b, off, none⟩ m c (flatP ys) (by rw [flatP_length, hys.1]) (SlP.news hys) (flatP_one ys) (by simp only [maxLen]; omega) (by omega) hbase
  exact ⟨v', w', hr, OwnP.app (by rw [hys.1]; exact h2), h3, h5⟩
theorem wp_app (s x : Operand) (ho : o.op = .call { callee := .builtin .append, args := #[s, x], argTypes := #[22, 22] }) (base : Nat) (v : Value) (xs : List Deg.S) (hs : a.eval s = v) (hown : OwnP w base v xs) (B b off m c : Nat) (ys : List Deg.S) (hx : a.eval x = .slice (some ⟨b, off, none⟩) m c) (hys : SlP w B (some ⟨b, off, none⟩) m ys) (hsm : xs.length + m ≤ 1000) (hbase : base ≤ w.heap.size)
    (h : ∀ v' w', OwnP w' base v' (xs ++ ys) → w.grownBy w' v.ownBlock → (v'.ownBlock = v.ownBlock ∨ v'.ownBlock = some w.heap.size) → K (a.put o.dst v') w') : o.wp Try.prog a w K Q := by
  obtain ⟨v', w', hr, h2, h3, h4⟩ := run_app o.type base v xs hown B b off m c ys hys hsm hbase
  unfold Oper.wp execOp
  simp only [ho, resolve, invoke, builtin, Sem.run_bind, Sem.run_pure, Result.andThen_ok, List.map_toArray, List.map_cons, List.map_nil, hs, hx, hr]
  exact h v' w' h2 h3 h4
theorem step_app {E : Prop} (hgd : o.guard = none) (s x : Operand) (ho : o.op = .call { callee := .builtin .append, args := #[s, x], argTypes := #[22, 22] }) (base : Nat) (v : Value) (xs : List Deg.S) (hs : a.eval s = v) (hown : OwnP w base v xs) (B b off m c : Nat) (ys : List Deg.S) (hx : a.eval x = .slice (some ⟨b, off, none⟩) m c) (hys : SlP w B (some ⟨b, off, none⟩) m ys) (hsm : xs.length + m ≤ 1000) (hbase : base ≤ w.heap.size)
    (h : ∀ v' w', OwnP w' base v' (xs ++ ys) → w.grownBy w' v.ownBlock → (v'.ownBlock = v.ownBlock ∨ v'.ownBlock = some w.heap.size) → K (a.put o.dst v') w') : if Region.wanted o (yielded ops a.tmps) = true then Oper.wp Try.prog o a w K Q else E := by
  have hw : Region.wanted o (yielded ops a.tmps) = true := by simp [Region.wanted, hgd]
  rw [if_pos hw]
  exact wp_app s x ho base v xs hs hown B b off m c ys hx hys hsm hbase h
theorem wpList_app {rest : List Oper} (hgd : o.guard = none) (s x : Operand) (ho : o.op = .call { callee := .builtin .append, args := #[s, x], argTypes := #[22, 22] }) (base : Nat) (v : Value) (xs : List Deg.S) (hs : a.eval s = v) (hown : OwnP w base v xs) (B b off m c : Nat) (ys : List Deg.S) (hx : a.eval x = .slice (some ⟨b, off, none⟩) m c) (hys : SlP w B (some ⟨b, off, none⟩) m ys) (hsm : xs.length + m ≤ 1000) (hbase : base ≤ w.heap.size)
    (h : ∀ v' w', OwnP w' base v' (xs ++ ys) → w.grownBy w' v.ownBlock → (v'.ownBlock = v.ownBlock ∨ v'.ownBlock = some w.heap.size) → wpList Try.prog ops Q rest (a.put o.dst v') w') : wpList Try.prog ops Q (o :: rest) a w :=
  wpList_plain hgd fun _ hK => wp_app s x ho base v xs hs hown B b off m c ys hx hys hsm hbase fun v' w' h2 h3 h4 => hK _ _ (h v' w' h2 h3 h4)
end

set_option maxRecDepth 100000 in
set_option maxHeartbeats 2000000 in
theorem awake21_calls (w : World) : Calls Try.prog 14 #[] w fun e w' => e = .returned (.bool true) ∧ Below w.heap.size w w' := by
  have H1 := Lib.hid (fun A W h => winding_calls A 4 4 [(1, 0), (0, 1), (-1, 0), (0, -1)] W h (by omega))
  rw [show Deg.wind [(1, 0), (0, 1), (-1, 0), (0, -1)] = (1, true) from by decide +kernel] at H1
  have H2 := Lib.hid (fun A W h => winding_calls A 2 2 [(1, 0), (-1, 0)] W h (by omega))
  rw [show Deg.wind [(1, 0), (-1, 0)] = (0, false) from by decide +kernel] at H2
  go_enter Try.func14, Try.ntmps14
  go_wp2_with (go_at_call 15; first
    | ((with_reducible refine (H1.out _ _ (SlP.lit4 (a := (1, 0)) (b := (0, 1)) (c := (-1, 0)) (d := (0, -1)) (Blk.new w _ _) (by simp))).mono ?_); rintro e w1 ⟨rfl, hb1⟩; have HB1 := bl_trans (bl_alloc (Below.refl w.heap.size w) _) hb1; clear hb1)
    | ((with_reducible refine (H2.out _ _ (SlP.lit2 (a := (1, 0)) (b := (-1, 0)) (Blk.new w1 _ _) (by simp))).mono ?_); rintro e w2 ⟨rfl, hb2⟩; have HB2 := bl_trans (bl_alloc HB1 _) hb2; clear hb2))
  all_goals go_ret
  all_goals exact ⟨by simp, HB2⟩
end Go.Proofs.Ytakajahogjeiaaa.Wk
