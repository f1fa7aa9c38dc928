/- Slices of ops made by the call; bytes as strings. -/
import Derived.Test.YtakajahogjeiaabCodC
import Derived.Deep.AppendLies
import Derived.Laws.BytesArg
namespace Go.Proofs.Ytakajahogjeiaab.Wk
open Go.RowKit Go.Proofs.Pl Go.Proofs.YtakajahogjeiaabW.PrintLast
set_option linter.unusedSimpArgs false
set_option linter.unusedVariables false

theorem infoOp : (Try.prog.info? 82).map (fun i => (i.zero, i.size, i.bytes)) = some (some (.agg #[.int .i64 0, .int .i64 0, .bool false, .int .u64 0, .int .i64 0, .bool false, .int .i64 0, .bool false, .int .u64 0, .int .i64 0, .int .i64 0, .bool false, .int .u64 0, .int .i64 0, .bool false, .int .i64 0, .bool false, .int .u64 0, .int .i64 0, .int .i64 0, .bool false, .int .u64 0, .int .i64 0, .bool false, .int .i64 0, .bool false, .int .u64 0, .int .i64 0, .int .i64 0, .bool false, .int .u64 0, .int .i64 0]), 32, 256) := by kernel_rfl
def flatO (xs : List Op) : List Value := xs.flatMap opCells
theorem flatO_app (xs ys : List Op) : flatO (xs ++ ys) = flatO xs ++ flatO ys := by simp [flatO]
theorem opCells_length (x : Op) : (opCells x).length = 32 := rfl
theorem flatO_length (xs : List Op) : (flatO xs).length = xs.length * 32 := by
  induction xs with
  | nil => rfl
  | cons a l ih => simp only [flatO, List.flatMap_cons, List.length_append, List.length_cons, opCells_length] at ih ⊢; omega
theorem flatO_get (xs : List Op) (j : Nat) : (flatO xs)[j]? = (xs[j / 32]?).bind fun x => (opCells x)[j % 32]? := by
  induction xs generalizing j with
  | nil => simp [flatO]
  | cons a l ih =>
    show (opCells a ++ flatO l)[j]? = _
    rcases Nat.lt_or_ge j 32 with h | h
    · rw [List.getElem?_append_left (by rw [opCells_length]; exact h), Nat.div_eq_of_lt h, Nat.mod_eq_of_lt h]
      rfl
    · rw [List.getElem?_append_right (by rw [opCells_length]; exact h), opCells_length, ih (j - 32)]
      have e1 : j / 32 = (j - 32) / 32 + 1 := by omega
      have e2 : j % 32 = (j - 32) % 32 := by omega
      rw [e1, e2]
      rfl
theorem flatO_one (xs : List Op) : ∀ u ∈ flatO xs, u.oneCell' = true := by
  intro u hu
  unfold flatO at hu
  obtain ⟨x, _, hx⟩ := List.mem_flatMap.1 hu
  simp only [opCells, List.mem_cons, List.not_mem_nil, or_false] at hx
  rcases hx with rfl | rfl | rfl | rfl | rfl | rfl | rfl | rfl | rfl | rfl | rfl | rfl | rfl | rfl | rfl | rfl | rfl | rfl | rfl | rfl | rfl | rfl | rfl | rfl | rfl | rfl | rfl | rfl | rfl | rfl | rfl | rfl <;> rfl
theorem SlO.news {w : World} {B b off n : Nat} {xs : List Op} (h : SlO w B (some ⟨b, off, none⟩) n xs) : ∀ j u, (flatO xs)[j]? = some u → w.cell? ((⟨b, off, none⟩ : Addr).add j) = some u := by
  intro j u hu
  have hadd : (⟨b, off, none⟩ : Addr).add j = ⟨b, off + j, none⟩ := by
    unfold Addr.add
    split
    · next h => subst h; rfl
    · simp
  rw [hadd]
  rw [flatO_get] at hu
  cases hx : xs[j / 32]? with
  | none => rw [hx] at hu; cases hu
  | some x =>
    rw [hx] at hu
    have hi : j / 32 < n := by rw [← h.1]; exact (List.getElem?_eq_some_iff.1 hx).1
    obtain ⟨b', off', e, hb, hc⟩ := h.2 (by omega)
    cases e
    have := hc _ x hx (j % 32) u hu
    rwa [show off + j / 32 * 32 + j % 32 = off + j from by omega] at this
def OwnO (w : World) (base : Nat) (v : Value) (xs : List Op) : Prop := w.ownsRow base 82 32 v xs.length (flatO xs)
theorem OwnO.sl {w : World} {base : Nat} {v : Value} {xs : List Op} (h : OwnO w base v xs) : ∃ A c, v = .slice A xs.length c ∧ SlO w w.heap.size A xs.length xs := by
  rcases h.2 with ⟨rfl, hn⟩ | ⟨g, cap, cur, rfl, hb, hg, hnc, hcm, hcs, htake⟩
  · exact ⟨none, 0, by rw [hn], rfl, fun h0 => absurd hn (by omega)⟩
  · refine ⟨_, cap, rfl, rfl, fun _ => ⟨g, 0, rfl, ?_, fun i x hx j u hu => ?_⟩⟩
    · rcases Nat.lt_or_ge g w.heap.size with hlt | hge
      · exact hlt
      · rw [Array.getElem?_eq_none hge] at hg; cases hg
    · have hi : i < xs.length := (List.getElem?_eq_some_iff.1 hx).1
      have hj : j < 32 := by have := (List.getElem?_eq_some_iff.1 hu).1; rwa [opCells_length] at this
      have hc := World.ownsRow.cellAt h (i * 32 + j) (by omega)
      rw [Nat.zero_add]
      refine hc.trans ?_
      rw [flatO_get, show (i * 32 + j) / 32 = i from by omega, show (i * 32 + j) % 32 = j from by omega, hx]
      exact hu
theorem OwnO.nil (w : World) (base : Nat) : OwnO w base (.slice none 0 0) [] := World.ownsRow_nil _ _ _ _
theorem OwnO.lt {w : World} {base : Nat} {v : Value} {xs : List Op} (h : OwnO w base v xs) : ∀ k, v.ownBlock = some k → base ≤ k ∧ k < w.heap.size := World.ownsRow.lt h
section
variable {ops : Array Oper} {o : Oper} {a : Act} {K : Act → World → Prop} {Q : Exit → Act → World → Prop} {w : World}
theorem wpList_appO {rest : List Oper} (hgd : o.guard = none) (s x : Operand) (ho : o.op = .call { callee := .builtin .append, args := #[s, x], argTypes := #[43, 43] }) (base : Nat) (v : Value) (xs : List Op) (hs : a.eval s = v) (hown : OwnO w base v xs) (B b off m c : Nat) (ys : List Op) (hx : a.eval x = .slice (some ⟨b, off, none⟩) m c) (hys : SlO w B (some ⟨b, off, none⟩) m ys) (hsm : xs.length + m ≤ 1000) (hbase : base ≤ w.heap.size)
    (h : ∀ v' w', OwnO w' base v' (xs ++ ys) → w.grownBy w' v.ownBlock → wpList Try.prog ops Q rest (a.put o.dst v') w') : wpList Try.prog ops Q (o :: rest) a w :=
  wpList_plain hgd fun _ hK => by
    obtain ⟨i0, hi, hz0, hz1, hz2⟩ := info_parts infoOp
    obtain ⟨v', w', hr, h2, h3, _, h5⟩ := run_append_own_at (P := Try.prog) w base 43 o.type 82 i0 _ 32 256 Try.underlying43 hi hz0 hz1 hz2 rfl (by omega) v xs.length (flatO xs) hown ⟨b, off, none⟩ m c (flatO ys) (by rw [flatO_length, hys.1]) (SlO.news hys) (flatO_one ys) (by simp only [maxLen]; omega) (by omega) hbase
    have h6 : OwnO w' base v' (xs ++ ys) := by
      unfold OwnO
      rw [flatO_app, List.length_append, hys.1]
      exact h2
    unfold Oper.wp execOp
    simp only [ho, resolve, invoke, builtin, Sem.run_bind, Sem.run_pure, Result.andThen_ok, List.map_toArray, List.map_cons, List.map_nil, hs, hx, hr]
    exact hK _ _ (h v' w' h6 h3)
end
theorem SlO.grown {w w' : World} {B n : Nat} {A : Option Addr} {xs : List Op} {row : Option Nat} (h : SlO w B A n xs) (hg : w.grownBy w' row) (hB : B ≤ w.heap.size) (hr : ∀ k, row = some k → B ≤ k) : SlO w' B A n xs :=
  h.keep fun b o hlt => hg.cell_far ⟨b, o, none⟩ (by show b < w.heap.size; omega) (fun e => by have := hr _ e.symm; dsimp only at this; omega)
theorem SlO.lit1 {w : World} {g B : Nat} {T : TypeId} {x : Op} (h : Blk w g T (opCells x).toArray) (hB : g < B) : SlO w B (some ⟨g, 0, none⟩) 1 [x] := by
  refine ⟨rfl, fun _ => ⟨g, 0, rfl, hB, fun i z hz j u hu => ?_⟩⟩
  match i, hz with
  | 0, hz =>
    simp only [List.getElem?_cons_zero, Option.some.injEq] at hz
    subst hz
    simp only [Nat.zero_mul, Nat.zero_add]
    exact h.at_ j (by simpa using hu)
  | i + 1, hz => simp at hz
theorem strOfNums_app (xs ys : List Int) : strOfNums (xs ++ ys) = strOfNums xs ++ strOfNums ys := by
  apply ByteArray.ext
  simp [strOfNums]
end Go.Proofs.Ytakajahogjeiaab.Wk
