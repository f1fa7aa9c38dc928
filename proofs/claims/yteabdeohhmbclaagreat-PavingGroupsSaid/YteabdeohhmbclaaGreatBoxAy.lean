/- Slices of intervals that the call made; walks: box.none, slices.ContainsFunc at it, box.Empty, slices.Clone. -/
import Derived.Test.YteabdeohhmbclaaGreatIvYy
import Derived.Test.YteabdeohhmbclaaGreatBsAy
import Derived.Test.YteabdeohhmbclaaGreatPureAy
import Derived.Maps.AppendAt
import Derived.Lib.SliceRun
import Derived.Lib.Walk
namespace Go.Proofs.YteabdeohhmbclaaGreat.Wk
open Go.RowKit Go.Proofs.Pl Go.Proofs.YteabdeohhmbclaaGreatW.PrintLast
set_option linter.unusedSimpArgs false
set_option linter.unusedVariables false

theorem infoIv : (Tryz.prog.info? 34).map (fun i => (i.zero, i.size, i.bytes)) = some (some (.agg #[.b false, .i 0, .b false, .u 0, .i 0, .i 0, .b false, .u 0, .i 0]), 9, 72) := by kernel_rfl
def ivCells (x : Iv) : List Value := [.b x.emp, .i x.lo.k, .b x.lo.n, .u x.lo.m, .i x.lo.e, .i x.hi.k, .b x.hi.n, .u x.hi.m, .i x.hi.e]
theorem ivCells_length (x : Iv) : (ivCells x).length = 9 := rfl
def flatI (xs : List Iv) : List Value := xs.flatMap ivCells
theorem flatI_app (xs ys : List Iv) : flatI (xs ++ ys) = flatI xs ++ flatI ys := by simp [flatI]
theorem flatI_length (xs : List Iv) : (flatI xs).length = xs.length * 9 := by
 induction xs with
 | nil => rfl
 | cons a l ih => simp only [flatI, List.flatMap_cons, List.length_append, List.length_cons, ivCells_length] at ih ⊢; omega
theorem flatI_get (xs : List Iv) (j : Nat) : (flatI xs)[j]? = (xs[j / 9]?).bind fun x => (ivCells x)[j % 9]? := by
 induction xs generalizing j with
 | nil => simp [flatI]
 | cons a l ih =>
  show (ivCells a ++ flatI l)[j]? = _
  rcases Nat.lt_or_ge j 9 with h | h
  ·rw [List.getElem?_append_left (by rw [ivCells_length]; exact h), Nat.div_eq_of_lt h, Nat.mod_eq_of_lt h]
   rfl
  ·rw [List.getElem?_append_right (by rw [ivCells_length]; exact h), ivCells_length, ih (j - 9)]
   have e1 : j / 9 = (j - 9) / 9 + 1 := by omega
   have e2 : j % 9 = (j - 9) % 9 := by omega
   rw [e1, e2]
   rfl
theorem flatI_one (xs : List Iv) : ∀ u ∈ flatI xs, u.oneCell' = true := by
 intro u hu
 unfold flatI at hu
 obtain ⟨x, _, hx⟩ := List.mem_flatMap.1 hu
 simp only [ivCells, List.mem_cons, List.not_mem_nil, or_false] at hx
 rcases hx with rfl | rfl | rfl | rfl | rfl | rfl | rfl | rfl | rfl <;> rfl
theorem addAt' (b off k : Nat) : (⟨b, off, none⟩ : Addr).add k = ⟨b, off + k, none⟩ := by
 unfold Addr.add
 split
 ·next h => subst h; rfl
 ·simp
theorem SlI.flat {w : World} {B n : Nat} {A : Addr} {xs : List Iv} (h : SlI w B (some A) n xs) : ∀ j u, (flatI xs)[j]? = some u → w.cell? (A.add j) = some u := by
 intro j u hu
 rw [flatI_get] at hu
 cases hx : xs[j / 9]? with
 | none => rw [hx] at hu; cases hu
 | some x =>
  rw [hx] at hu
  have hi : j / 9 < n := by rw [← h.1]; exact (List.getElem?_eq_some_iff.1 hx).1
  obtain ⟨b, off, e, hb, hc⟩ := h.2 (by omega)
  cases e
  rw [addAt']
  obtain ⟨c0, c1, c2, c3, c4, c5, c6, c7, c8⟩ := hc _ x hx
  have hm : j % 9 < 9 := Nat.mod_lt _ (by decide)
  have ej : off + j = off + j / 9 * 9 + j % 9 := by omega
  rw [ej]
  simp only [Option.bind_some, ivCells] at hu
  generalize j % 9 = m at hm hu
  match m, hm, hu with
  | 0, _, hu => simp at hu; subst hu; exact c0
  | 1, _, hu => simp at hu; subst hu; exact c1
  | 2, _, hu => simp at hu; subst hu; exact c2
  | 3, _, hu => simp at hu; subst hu; exact c3
  | 4, _, hu => simp at hu; subst hu; exact c4
  | 5, _, hu => simp at hu; subst hu; exact c5
  | 6, _, hu => simp at hu; subst hu; exact c6
  | 7, _, hu => simp at hu; subst hu; exact c7
  | 8, _, hu => simp at hu; subst hu; exact c8
theorem SlI.ofFlat {w : World} {B n g off : Nat} {xs : List Iv} (hl : xs.length = n) (hg : g < B) (h : ∀ j u, (flatI xs)[j]? = some u → w.cell? ⟨g, off + j, none⟩ = some u) : SlI w B (some ⟨g, off, none⟩) n xs := by
 refine ⟨hl, fun _ => ⟨g, off, rfl, hg, fun i x hx => ?_⟩⟩
 have e : ∀ m u, m < 9 → (ivCells x)[m]? = some u → w.cell? ⟨g, off + i * 9 + m, none⟩ = some u := fun m u hm hu => by
  have := h (i * 9 + m) u (by rw [flatI_get, show (i * 9 + m) / 9 = i from by omega, show (i * 9 + m) % 9 = m from by omega, hx]; exact hu)
  rwa [← Nat.add_assoc] at this
 exact ⟨e 0 _ (by decide) rfl, e 1 _ (by decide) rfl, e 2 _ (by decide) rfl, e 3 _ (by decide) rfl, e 4 _ (by decide) rfl, e 5 _ (by decide) rfl, e 6 _ (by decide) rfl, e 7 _ (by decide) rfl, e 8 _ (by decide) rfl⟩
def OwnI (w : World) (base : Nat) (v : Value) (xs : List Iv) : Prop := w.ownsRow base 34 9 v xs.length (flatI xs)
theorem OwnI.sl {w : World} {base : Nat} {v : Value} {xs : List Iv} (h : OwnI w base v xs) : ∃ A c, v = .slice A xs.length c ∧ SlI w w.heap.size A xs.length xs := by
 rcases h.2 with ⟨rfl, hn⟩ | ⟨g, cap, cur, rfl, hb, hg, hnc, hcm, hcs, htake⟩
 ·exact ⟨none, 0, by rw [hn], rfl, fun h0 => absurd hn (by omega)⟩
 ·refine ⟨_, cap, rfl, SlI.ofFlat rfl ?_ fun j u hu => ?_⟩
  ·rcases Nat.lt_or_ge g w.heap.size with hlt | hge
   ·exact hlt
   ·rw [Array.getElem?_eq_none hge] at hg; cases hg
  ·have hj : j < xs.length * 9 := by rw [← flatI_length]; exact (List.getElem?_eq_some_iff.1 hu).1
   rw [Nat.zero_add]
   exact (World.ownsRow.cellAt h j hj).trans hu
theorem OwnI.lt {w : World} {base : Nat} {v : Value} {xs : List Iv} (h : OwnI w base v xs) : ∀ k, v.ownBlock = some k → base ≤ k ∧ k < w.heap.size := World.ownsRow.lt h
theorem OwnI.same {w w' : World} {base : Nat} {v : Value} {xs : List Iv} (h : OwnI w base v xs) (hk : ∀ k, v.ownBlock = some k → w'.heap[k]? = w.heap[k]?) : OwnI w' base v xs := by
 refine ⟨h.1, ?_⟩
 rcases h.2 with hn | ⟨g, cap, cur, rfl, hb, hgg, rest⟩
 ·exact .inl hn
 ·exact .inr ⟨g, cap, cur, rfl, hb, (hk g rfl).trans hgg, rest⟩
theorem OwnI.call {w w' : World} {base : Nat} {v : Value} {xs : List Iv} (h : OwnI w base v xs) (hb : Below w.heap.size w w') : OwnI w' base v xs := h.same fun k hk => hb.block k (h.lt k hk).2
theorem OwnI.alloc {w : World} {base : Nat} {v : Value} {xs : List Iv} (h : OwnI w base v xs) (o : Obj) : OwnI (w.alloc o) base v xs := World.ownsRow.alloc h o
theorem OwnI.drew {w : World} {base : Nat} {v : Value} {xs : List Iv} (h : OwnI w base v xs) : OwnI w.drew base v xs := World.ownsRow.drew h
section
variable {ops : Array Oper} {o : Oper} {a : Act} {K : Act → World → Prop} {Q : Exit → Act → World → Prop} {w : World}
theorem run_appI (base : Nat) (v : Value) (xs : List Iv) (hown : OwnI w base v xs) (ty : TypeId) (B : Nat) (A : Addr) (m c : Nat) (ys : List Iv) (hys : SlI w B (some A) m ys) (hsm : xs.length + m ≤ 1000000) (hbase : base ≤ w.heap.size) :
  ∃ v' w', (Builtin.append_ #[77, 77] ty #[v, .slice (some A) m c]).run Tryz.prog w = .ok v' w' ∧ OwnI w' base v' (xs ++ ys) ∧ w.grownBy w' v.ownBlock ∧ (v'.ownBlock = v.ownBlock ∨ v'.ownBlock = some w.heap.size) := by
 obtain ⟨i0, hi, hz0, hz1, hz2⟩ := info_parts infoIv
 obtain ⟨v', w', hr, h2, h3, _, h5⟩ := run_append_own_at (P := Tryz.prog) w base 77 ty 34 i0 _ 9 72 Tryz.underlying77 hi hz0 hz1 hz2 rfl (by omega) v xs.length (flatI xs) hown A m c (flatI ys) (by rw [flatI_length, hys.1]) (SlI.flat hys) (flatI_one ys) (by simp only [maxLen]; omega) (by omega) hbase
 refine ⟨v', w', hr, ?_, h3, h5⟩
 unfold OwnI
 rw [flatI_app, List.length_append, hys.1]
 exact h2
end
theorem SlI.on {w w' : World} {A : Option Addr} {n : Nat} {xs : List Iv} (h : SlI w w.heap.size A n xs) (hb : Below w.heap.size w w') : SlI w' w'.heap.size A n xs := (h.below hb).more hb.size

end Go.Proofs.YteabdeohhmbclaaGreat.Wk
