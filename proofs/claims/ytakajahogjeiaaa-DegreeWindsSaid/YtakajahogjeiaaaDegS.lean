/- Slices of spots as lists of pairs. -/
import Derived.Test.YtakajahogjeiaaaRegLib
import Derived.Test.YtakajahogjeiaaaDegSum
namespace Go.Proofs.Ytakajahogjeiaaa.Wk
open Go.RowKit
set_option linter.unusedSimpArgs false
set_option linter.unusedVariables false

/-- A slice of spots, below block B. -/
def SlP (w : World) (B : Nat) (A : Option Addr) (n : Nat) (xs : List Deg.S) : Prop :=
  xs.length = n ∧ (0 < n → ∃ b off, A = some ⟨b, off, none⟩ ∧ b < B ∧ ∀ (i : Nat) (x : Deg.S), xs[i]? = some x →
    w.cell? ⟨b, off + i * 2, none⟩ = some (.int .i64 x.1) ∧ w.cell? ⟨b, off + i * 2 + 1, none⟩ = some (.int .i64 x.2))
section
variable {w w' : World} {B B' n : Nat} {A : Option Addr} {xs : List Deg.S}
theorem SlP.keep (h : SlP w B A n xs) (hk : ∀ b o, b < B → w'.cell? ⟨b, o, none⟩ = w.cell? ⟨b, o, none⟩) : SlP w' B A n xs :=
  ⟨h.1, fun hn => by
    obtain ⟨b, off, e, hb, hc⟩ := h.2 hn
    refine ⟨b, off, e, hb, fun i x hx => ?_⟩
    simp only [hk b _ hb]
    exact hc i x hx⟩
theorem SlP.below (h : SlP w B A n xs) (hb : Below B w w') : SlP w' B A n xs := h.keep fun b o hlt => hb.cell (p := ⟨b, o, none⟩) hlt
theorem SlP.more (h : SlP w B A n xs) (hB : B ≤ B') : SlP w B' A n xs := ⟨h.1, fun hn => by obtain ⟨b, off, e, hb, hc⟩ := h.2 hn; exact ⟨b, off, e, by omega, hc⟩⟩
theorem SlP.on (h : SlP w w.heap.size A n xs) (hb : Below w.heap.size w w') : SlP w' w'.heap.size A n xs := (h.below hb).more hb.size
theorem SlP.at_ (h : SlP w B A n xs) {k : Nat} (hk : k < n) : ∃ b off, A = some ⟨b, off, none⟩ ∧ b < B ∧ xs[k]? = some (Deg.pt xs k) ∧
    w.cell? ⟨b, off + k * 2, none⟩ = some (.int .i64 (Deg.pt xs k).1) ∧ w.cell? ⟨b, off + k * 2 + 1, none⟩ = some (.int .i64 (Deg.pt xs k).2) := by
  obtain ⟨b, off, e, hb, hc⟩ := h.2 (by omega)
  have hl : k < xs.length := by have := h.1; omega
  have hp : xs[k]? = some (Deg.pt xs k) := by simp [Deg.pt, hl]
  exact ⟨b, off, e, hb, hp, hc k _ hp⟩
theorem SlP.nil : SlP w B A 0 [] := ⟨rfl, fun h => absurd h (by omega)⟩
theorem SlP.take (h : SlP w B A n xs) {k : Nat} (hk : k ≤ n) : SlP w B A k (xs.take k) := by
  refine ⟨by have := h.1; simp; omega, fun h0 => ?_⟩
  obtain ⟨b, off, e, hb, hc⟩ := h.2 (by omega)
  refine ⟨b, off, e, hb, fun i x hx => hc i x ?_⟩
  rw [List.getElem?_take] at hx
  split at hx
  · exact hx
  · cases hx
theorem SlP.drop {b off : Nat} (h : SlP w B (some ⟨b, off, none⟩) n xs) {k : Nat} (hk : k < n) : SlP w B (some ⟨b, off + k * 2, none⟩) (n - k) (xs.drop k) := by
  refine ⟨by have := h.1; simp; omega, fun h0 => ?_⟩
  obtain ⟨b', off', e, hb, hc⟩ := h.2 (by omega)
  cases e
  refine ⟨b, off + k * 2, rfl, hb, fun i x hx => ?_⟩
  rw [List.getElem?_drop] at hx
  have := hc (k + i) x hx
  have e2 : off + (k + i) * 2 = off + k * 2 + i * 2 := by omega
  rwa [e2] at this
end

/-- The cells of spots. -/
def flatP (xs : List Deg.S) : List Value := xs.flatMap fun x => [.int .i64 x.1, .int .i64 x.2]
theorem flatP_snoc (xs : List Deg.S) (x : Deg.S) : flatP (xs ++ [x]) = flatP xs ++ [.int .i64 x.1, .int .i64 x.2] := by simp [flatP]
theorem flatP_app (xs ys : List Deg.S) : flatP (xs ++ ys) = flatP xs ++ flatP ys := by simp [flatP]
theorem flatP_length (xs : List Deg.S) : (flatP xs).length = xs.length * 2 := by
  induction xs with
  | nil => rfl
  | cons a l ih => simp only [flatP, List.flatMap_cons, List.length_append] at ih ⊢; simp [ih]; omega
theorem flatP_at (xs : List Deg.S) (i : Nat) (x : Deg.S) (h : xs[i]? = some x) : (flatP xs)[i * 2]? = some (.int .i64 x.1) ∧ (flatP xs)[i * 2 + 1]? = some (.int .i64 x.2) := by
  induction xs generalizing i with
  | nil => simp at h
  | cons a l ih =>
    cases i with
    | zero =>
      simp only [List.getElem?_cons_zero, Option.some.injEq] at h
      subst h
      simp [flatP]
    | succ i =>
      have h1 := ih i (by simpa using h)
      have e : ∀ j, (flatP (a :: l))[(i + 1) * 2 + j]? = (flatP l)[i * 2 + j]? := fun j => by
        show ([_, _] ++ flatP l)[(i + 1) * 2 + j]? = _
        rw [List.getElem?_append_right (by simp; omega)]
        congr 1
        simp; omega
      exact ⟨(e 0).trans h1.1, (e 1).trans h1.2⟩
theorem flatP_get (xs : List Deg.S) (j : Nat) (u : Value) (h : (flatP xs)[j]? = some u) : ∃ x, xs[j / 2]? = some x ∧ ((j = j / 2 * 2 ∧ u = .int .i64 x.1) ∨ (j = j / 2 * 2 + 1 ∧ u = .int .i64 x.2)) := by
  have hl : j < (flatP xs).length := (List.getElem?_eq_some_iff.1 h).1
  rw [flatP_length] at hl
  have hi : j / 2 < xs.length := by omega
  have hx : xs[j / 2]? = some xs[j / 2] := List.getElem?_eq_getElem hi
  obtain ⟨h0, h1⟩ := flatP_at xs (j / 2) _ hx
  refine ⟨_, hx, ?_⟩
  rcases (show j = j / 2 * 2 ∨ j = j / 2 * 2 + 1 from by omega) with e | e
  · rw [e, h0] at h; cases h; exact .inl ⟨e, rfl⟩
  · rw [e, h1] at h; cases h; exact .inr ⟨e, rfl⟩
theorem flatP_one (xs : List Deg.S) : ∀ u ∈ flatP xs, u.oneCell' = true := by
  intro u hu
  unfold flatP at hu
  obtain ⟨x, _, hx⟩ := List.mem_flatMap.1 hu
  simp only [List.mem_cons, List.not_mem_nil, or_false] at hx
  rcases hx with rfl | rfl <;> rfl
/-- The cells of a slice of spots, for an append. -/
theorem SlP.news {w : World} {B b off n : Nat} {xs : List Deg.S} (h : SlP w B (some ⟨b, off, none⟩) n xs) : ∀ j u, (flatP xs)[j]? = some u → w.cell? ((⟨b, off, none⟩ : Addr).add j) = some u := by
  intro j u hu
  have hadd : (⟨b, off, none⟩ : Addr).add j = ⟨b, off + j, none⟩ := by
    unfold Addr.add
    split
    · next h => subst h; rfl
    · simp
  rw [hadd]
  obtain ⟨x, hx, hc⟩ := flatP_get xs j u hu
  have hi : j / 2 < n := by rw [← h.1]; exact (List.getElem?_eq_some_iff.1 hx).1
  obtain ⟨b', off', e, hb, hcells⟩ := h.2 (by omega)
  cases e
  have := hcells _ x hx
  rcases hc with ⟨e, rfl⟩ | ⟨e, rfl⟩
  · rw [e]; exact this.1
  · rw [e, ← Nat.add_assoc]; exact this.2
/-- A slice of spots that the call made. -/
def OwnP (w : World) (base : Nat) (v : Value) (xs : List Deg.S) : Prop := w.ownsRow base 25 2 v xs.length (flatP xs)
theorem OwnP.sl {w : World} {base : Nat} {v : Value} {xs : List Deg.S} (h : OwnP w base v xs) : ∃ A c, v = .slice A xs.length c ∧ SlP w w.heap.size A xs.length xs := by
  rcases h.2 with ⟨rfl, hn⟩ | ⟨g, cap, cur, rfl, hb, hg, hnc, hcm, hcs, htake⟩
  · exact ⟨none, 0, by rw [hn], rfl, fun h0 => absurd hn (by omega)⟩
  · refine ⟨_, cap, rfl, rfl, fun _ => ⟨g, 0, rfl, ?_, fun i x hx => ?_⟩⟩
    · rcases Nat.lt_or_ge g w.heap.size with hlt | hge
      · exact hlt
      · rw [Array.getElem?_eq_none hge] at hg; cases hg
    · have hi : i < xs.length := (List.getElem?_eq_some_iff.1 hx).1
      obtain ⟨c0, c1⟩ := flatP_at xs i x hx
      have hc : ∀ j, j < 2 → w.cell? ⟨g, i * 2 + j, none⟩ = (flatP xs)[i * 2 + j]? := fun j hj => World.ownsRow.cellAt h (i * 2 + j) (by omega)
      simp only [Nat.zero_add]
      exact ⟨(hc 0 (by omega)).trans c0, (hc 1 (by omega)).trans c1⟩
theorem OwnP.nil (w : World) (base : Nat) : OwnP w base (.slice none 0 0) [] := World.ownsRow_nil _ _ _ _
theorem OwnP.drew {w : World} {base : Nat} {v : Value} {xs : List Deg.S} (h : OwnP w base v xs) : OwnP w.drew base v xs := World.ownsRow.drew h
theorem OwnP.alloc {w : World} {base : Nat} {v : Value} {xs : List Deg.S} (h : OwnP w base v xs) (o : Obj) : OwnP (w.alloc o) base v xs := World.ownsRow.alloc h o
theorem OwnP.lt {w : World} {base : Nat} {v : Value} {xs : List Deg.S} (h : OwnP w base v xs) : ∀ k, v.ownBlock = some k → base ≤ k ∧ k < w.heap.size := World.ownsRow.lt h
theorem OwnP.same {w w' : World} {base : Nat} {v : Value} {xs : List Deg.S} (h : OwnP w base v xs) (hk : ∀ g, g < w.heap.size → w'.heap[g]? = w.heap[g]?) : OwnP w' base v xs := by
  refine ⟨h.1, ?_⟩
  have hlt := h.lt
  rcases h.2 with hn | ⟨g, cap, cur, rfl, hb, hgg, rest⟩
  · exact .inl hn
  · exact .inr ⟨g, cap, cur, rfl, hb, (hk g (hlt g rfl).2).trans hgg, rest⟩
theorem OwnP.call {w w' : World} {base : Nat} {v : Value} {xs : List Deg.S} (h : OwnP w base v xs) (hb : Below w.heap.size w w') : OwnP w' base v xs := h.same fun g hg => hb.block g hg
theorem OwnP.app {w : World} {base : Nat} {v : Value} {xs ys : List Deg.S} (h : w.ownsRow base 25 2 v (xs.length + ys.length) (flatP xs ++ flatP ys)) : OwnP w base v (xs ++ ys) := by
  unfold OwnP
  rw [flatP_app, List.length_append]
  exact h
theorem OwnP.snoc {w : World} {base : Nat} {v : Value} {xs : List Deg.S} {a b : Int} (h : w.ownsRow base 25 2 v (xs.length + 1) (flatP xs ++ [.int .i64 a, .int .i64 b])) : OwnP w base v (xs ++ [(a, b)]) := by
  unfold OwnP
  rw [flatP_snoc, List.length_append]
  exact h
theorem infoSpot : (Try.prog.info? 25).map (fun i => (i.zero, i.size, i.bytes)) = some (some (.agg #[.int .i64 0, .int .i64 0]), 2, 16) := by kernel_rfl
end Go.Proofs.Ytakajahogjeiaaa.Wk
