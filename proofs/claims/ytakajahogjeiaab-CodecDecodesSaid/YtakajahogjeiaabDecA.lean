/- Slices of slices of a tube made by the call; one op, one slice as a slice literal. -/
import Derived.Test.YtakajahogjeiaabRdG
import Derived.Test.YtakajahogjeiaabRdQ
import Derived.Test.YtakajahogjeiaabCodE
import Derived.Great.BuildSlice
namespace Go.Proofs.Ytakajahogjeiaab.Wk
open Go.RowKit Go.Proofs.Pl Go.Proofs.YtakajahogjeiaabW.PrintLast
set_option linter.unusedSimpArgs false
set_option linter.unusedVariables false

theorem infoSlc : (Try.prog.info? 88).map (fun i => (i.zero, i.size, i.bytes)) = some (some (.agg #[.int .i64 0, .bool false, .int .u64 0, .int .i64 0, .bool false, .int .i64 0, .bool false, .int .u64 0, .int .i64 0, .int .i64 0, .bool false, .int .u64 0, .int .i64 0, .bool false, .int .i64 0, .bool false, .int .u64 0, .int .i64 0, .int .i64 0, .bool false, .int .u64 0, .int .i64 0]), 22, 176) := by kernel_rfl
def flatS (xs : List Slc) : List Value := xs.flatMap slcCells
theorem flatS_app (xs ys : List Slc) : flatS (xs ++ ys) = flatS xs ++ flatS ys := by simp [flatS]
theorem slcCells_length (x : Slc) : (slcCells x).length = 22 := rfl
theorem flatS_length (xs : List Slc) : (flatS xs).length = xs.length * 22 := by
  induction xs with
  | nil => rfl
  | cons a l ih => simp only [flatS, List.flatMap_cons, List.length_append, List.length_cons, slcCells_length] at ih ⊢; omega
theorem flatS_get (xs : List Slc) (j : Nat) : (flatS xs)[j]? = (xs[j / 22]?).bind fun x => (slcCells x)[j % 22]? := by
  induction xs generalizing j with
  | nil => simp [flatS]
  | cons a l ih =>
    show (slcCells a ++ flatS l)[j]? = _
    rcases Nat.lt_or_ge j 22 with h | h
    · rw [List.getElem?_append_left (by rw [slcCells_length]; exact h), Nat.div_eq_of_lt h, Nat.mod_eq_of_lt h]
      rfl
    · rw [List.getElem?_append_right (by rw [slcCells_length]; exact h), slcCells_length, ih (j - 22)]
      have e1 : j / 22 = (j - 22) / 22 + 1 := by omega
      have e2 : j % 22 = (j - 22) % 22 := by omega
      rw [e1, e2]
      rfl
theorem flatS_one (xs : List Slc) : ∀ u ∈ flatS xs, u.oneCell' = true := by
  intro u hu
  unfold flatS at hu
  obtain ⟨x, _, hx⟩ := List.mem_flatMap.1 hu
  simp only [slcCells, List.mem_cons, List.not_mem_nil, or_false] at hx
  rcases hx with rfl | rfl | rfl | rfl | rfl | rfl | rfl | rfl | rfl | rfl | rfl | rfl | rfl | rfl | rfl | rfl | rfl | rfl | rfl | rfl | rfl | rfl <;> rfl
theorem SlT.news {w : World} {B b off n : Nat} {xs : List Slc} (h : SlT w B (some ⟨b, off, none⟩) n xs) : ∀ j u, (flatS xs)[j]? = some u → w.cell? ((⟨b, off, none⟩ : Addr).add j) = some u := by
  intro j u hu
  have hadd : (⟨b, off, none⟩ : Addr).add j = ⟨b, off + j, none⟩ := by
    unfold Addr.add
    split
    · next h => subst h; rfl
    · simp
  rw [hadd]
  rw [flatS_get] at hu
  cases hx : xs[j / 22]? with
  | none => rw [hx] at hu; cases hu
  | some x =>
    rw [hx] at hu
    have hi : j / 22 < n := by rw [← h.1]; exact (List.getElem?_eq_some_iff.1 hx).1
    obtain ⟨b', off', e, hb, hc⟩ := h.2 (by omega)
    cases e
    have := hc _ x hx (j % 22) u hu
    rwa [show off + j / 22 * 22 + j % 22 = off + j from by omega] at this
def OwnS (w : World) (base : Nat) (v : Value) (xs : List Slc) : Prop := w.ownsRow base 88 22 v xs.length (flatS xs)
theorem OwnS.sl {w : World} {base : Nat} {v : Value} {xs : List Slc} (h : OwnS w base v xs) : ∃ A c, v = .slice A xs.length c ∧ SlT w w.heap.size A xs.length xs := by
  rcases h.2 with ⟨rfl, hn⟩ | ⟨g, cap, cur, rfl, hb, hg, hnc, hcm, hcs, htake⟩
  · exact ⟨none, 0, by rw [hn], rfl, fun h0 => absurd hn (by omega)⟩
  · refine ⟨_, cap, rfl, rfl, fun _ => ⟨g, 0, rfl, ?_, fun i x hx j u hu => ?_⟩⟩
    · rcases Nat.lt_or_ge g w.heap.size with hlt | hge
      · exact hlt
      · rw [Array.getElem?_eq_none hge] at hg; cases hg
    · have hi : i < xs.length := (List.getElem?_eq_some_iff.1 hx).1
      have hj : j < 22 := by have := (List.getElem?_eq_some_iff.1 hu).1; rwa [slcCells_length] at this
      have hc := World.ownsRow.cellAt h (i * 22 + j) (by omega)
      rw [Nat.zero_add]
      refine hc.trans ?_
      rw [flatS_get, show (i * 22 + j) / 22 = i from by omega, show (i * 22 + j) % 22 = j from by omega, hx]
      exact hu
theorem OwnS.nil (w : World) (base : Nat) : OwnS w base (.slice none 0 0) [] := World.ownsRow_nil _ _ _ _
theorem OwnS.lt {w : World} {base : Nat} {v : Value} {xs : List Slc} (h : OwnS w base v xs) : ∀ k, v.ownBlock = some k → base ≤ k ∧ k < w.heap.size := World.ownsRow.lt h
section
variable {ops : Array Oper} {o : Oper} {a : Act} {K : Act → World → Prop} {Q : Exit → Act → World → Prop} {w : World}
theorem wpList_appS {rest : List Oper} (hgd : o.guard = none) (s x : Operand) (ho : o.op = .call { callee := .builtin .append, args := #[s, x], argTypes := #[32, 32] }) (base : Nat) (v : Value) (xs : List Slc) (hs : a.eval s = v) (hown : OwnS w base v xs) (B b off m c : Nat) (ys : List Slc) (hx : a.eval x = .slice (some ⟨b, off, none⟩) m c) (hys : SlT w B (some ⟨b, off, none⟩) m ys) (hsm : xs.length + m ≤ 1000) (hbase : base ≤ w.heap.size)
    (h : ∀ v' w', OwnS w' base v' (xs ++ ys) → w.grownBy w' v.ownBlock → wpList Try.prog ops Q rest (a.put o.dst v') w') : wpList Try.prog ops Q (o :: rest) a w :=
  wpList_plain hgd fun _ hK => by
    obtain ⟨i0, hi, hz0, hz1, hz2⟩ := info_parts infoSlc
    obtain ⟨v', w', hr, h2, h3, _, h5⟩ := run_append_own_at (P := Try.prog) w base 32 o.type 88 i0 _ 22 176 Try.underlying32 hi hz0 hz1 hz2 rfl (by omega) v xs.length (flatS xs) hown ⟨b, off, none⟩ m c (flatS ys) (by rw [flatS_length, hys.1]) (SlT.news hys) (flatS_one ys) (by simp only [maxLen]; omega) (by omega) hbase
    have h6 : OwnS w' base v' (xs ++ ys) := by
      unfold OwnS
      rw [flatS_app, List.length_append, hys.1]
      exact h2
    unfold Oper.wp execOp
    simp only [ho, resolve, invoke, builtin, Sem.run_bind, Sem.run_pure, Result.andThen_ok, List.map_toArray, List.map_cons, List.map_nil, hs, hx, hr]
    exact hK _ _ (h v' w' h6 h3)
end
theorem SlT.grown {w w' : World} {B n : Nat} {A : Option Addr} {xs : List Slc} {row : Option Nat} (h : SlT w B A n xs) (hg : w.grownBy w' row) (hB : B ≤ w.heap.size) (hr : ∀ k, row = some k → B ≤ k) : SlT w' B A n xs :=
  h.keep fun b o hlt => hg.cell_far ⟨b, o, none⟩ (by show b < w.heap.size; omega) (fun e => by have := hr _ e.symm; dsimp only at this; omega)
theorem SlT.lit1 {w : World} {g B : Nat} {T : TypeId} {x : Slc} (h : Blk w g T (slcCells x).toArray) (hB : g < B) : SlT w B (some ⟨g, 0, none⟩) 1 [x] := by
  refine ⟨rfl, fun _ => ⟨g, 0, rfl, hB, fun i z hz j u hu => ?_⟩⟩
  match i, hz with
  | 0, hz =>
    simp only [List.getElem?_cons_zero, Option.some.injEq] at hz
    subst hz
    simp only [Nat.zero_mul, Nat.zero_add]
    exact h.at_ j (by simpa using hu)
  | i + 1, hz => simp at hz
theorem OwnO.same {w w' : World} {base : Nat} {v : Value} {xs : List Op} (h : OwnO w base v xs) (hk : ∀ g, v.ownBlock = some g → w'.heap[g]? = w.heap[g]?) : OwnO w' base v xs := by
  refine ⟨h.1, ?_⟩
  rcases h.2 with hn | ⟨g, cap, cur, rfl, hb, hgg, rest⟩
  · exact .inl hn
  · exact .inr ⟨g, cap, cur, rfl, hb, (hk g rfl).trans hgg, rest⟩
theorem OwnO.far {w w' : World} {base p : Nat} {v : Value} {xs : List Op} (h : OwnO w base v xs) (hg : w.grownBy w' (some p)) (hp : p < base ∨ w.heap.size ≤ p) : OwnO w' base v xs :=
  h.same fun g hg' => hg.block g (h.lt g hg').2 (by have := h.lt g hg'; intro e; cases e; omega)
theorem OwnO.call {w w' : World} {base : Nat} {v : Value} {xs : List Op} (h : OwnO w base v xs) (hb : Below w.heap.size w w') : OwnO w' base v xs := h.same fun g hg' => hb.block g (h.lt g hg').2
theorem OwnS.same {w w' : World} {base : Nat} {v : Value} {xs : List Slc} (h : OwnS w base v xs) (hk : ∀ g, v.ownBlock = some g → w'.heap[g]? = w.heap[g]?) : OwnS w' base v xs := by
  refine ⟨h.1, ?_⟩
  rcases h.2 with hn | ⟨g, cap, cur, rfl, hb, hgg, rest⟩
  · exact .inl hn
  · exact .inr ⟨g, cap, cur, rfl, hb, (hk g rfl).trans hgg, rest⟩
theorem OwnS.far {w w' : World} {base p : Nat} {v : Value} {xs : List Slc} (h : OwnS w base v xs) (hg : w.grownBy w' (some p)) (hp : p < base ∨ w.heap.size ≤ p) : OwnS w' base v xs :=
  h.same fun g hg' => hg.block g (h.lt g hg').2 (by have := h.lt g hg'; intro e; cases e; omega)
theorem OwnS.call {w w' : World} {base : Nat} {v : Value} {xs : List Slc} (h : OwnS w base v xs) (hb : Below w.heap.size w w') : OwnS w' base v xs := h.same fun g hg' => hb.block g (h.lt g hg').2
theorem OwnO.fresh {w w' : World} {o : Obj} {base : Nat} {v : Value} {xs : List Op} (h : OwnO w base v xs) (hg : (w.alloc o).grownBy w' (some w.heap.size)) : OwnO w' base v xs :=
  h.same fun g hg' => by
    have hl := h.lt g hg'
    exact (hg.block g (by simp; omega) (by intro e; cases e; omega)).trans (Below.heap_alloc w o g hl.2)
theorem OwnS.fresh {w w' : World} {o : Obj} {base : Nat} {v : Value} {xs : List Slc} (h : OwnS w base v xs) (hg : (w.alloc o).grownBy w' (some w.heap.size)) : OwnS w' base v xs :=
  h.same fun g hg' => by
    have hl := h.lt g hg'
    exact (hg.block g (by simp; omega) (by intro e; cases e; omega)).trans (Below.heap_alloc w o g hl.2)
theorem OwnO.farN {w w' : World} {base p : Nat} {v : Value} {xs : List Op} (h : OwnO w base v xs) (hg : w.grownBy w' (some p)) (hp : v.ownBlock ≠ some p) : OwnO w' base v xs :=
  h.same fun g hg' => hg.block g (h.lt g hg').2 (by intro e; cases e; exact hp hg')
theorem OwnO.past {w : World} {base : Nat} {v : Value} {xs : List Op} (h : OwnO w base v xs) : ∀ k, w.heap.size ≤ k → v.ownBlock ≠ some k := fun k hk e => by have := h.lt k e; omega
theorem OwnS.farN {w w' : World} {base p : Nat} {v : Value} {xs : List Slc} (h : OwnS w base v xs) (hg : w.grownBy w' (some p)) (hp : v.ownBlock ≠ some p) : OwnS w' base v xs :=
  h.same fun g hg' => hg.block g (h.lt g hg').2 (by intro e; cases e; exact hp hg')
theorem OwnS.past {w : World} {base : Nat} {v : Value} {xs : List Slc} (h : OwnS w base v xs) : ∀ k, w.heap.size ≤ k → v.ownBlock ≠ some k := fun k hk e => by have := h.lt k e; omega
theorem fill_one (n : Nat) (hn : 0 < n) (zs cs : Array Value) (hz : zs.size = n) (hc : cs.size = n) : Instr.fill (fun i => some (i * n, n)) zs [(0, .agg cs)] = some cs := by
  obtain ⟨r, hr, hsz, hk⟩ := Great.fill_dense hn [.agg cs] 0 zs (by intro v hv; rw [List.mem_singleton.1 hv]; exact hc) (by simp; omega)
  have e : r = cs := by
    apply Array.ext_getElem?
    intro k
    rw [hk k]
    simp only [List.length_singleton, Nat.zero_mul, Nat.zero_add, Nat.one_mul, Nat.zero_le, true_and, Nat.sub_zero]
    by_cases h : k < n
    · rw [if_pos h, Nat.div_eq_of_lt h, Nat.mod_eq_of_lt h]; rfl
    · rw [if_neg h, Array.getElem?_eq_none (by omega), Array.getElem?_eq_none (by omega)]
  have h2 := hr
  rw [e] at h2
  exact h2
theorem putOt (m : Int) (t u : Num) (a b c : Iv) : putL (opCells ⟨m, t, a, b, c⟩).toArray 1 (#[.int .i64 u.k, .bool u.n, .int .u64 u.m, .int .i64 u.e] : Array Value).toList = (opCells ⟨m, u, a, b, c⟩).toArray := by
  simp only [putL, opCells, List.setIfInBounds_toArray, List.set_cons_zero, List.set_cons_succ]
theorem putOa (m : Int) (t : Num) (a b c u : Iv) : putL (opCells ⟨m, t, a, b, c⟩).toArray 5 (#[.bool u.emp, .int .i64 u.lo.k, .bool u.lo.n, .int .u64 u.lo.m, .int .i64 u.lo.e, .int .i64 u.hi.k, .bool u.hi.n, .int .u64 u.hi.m, .int .i64 u.hi.e] : Array Value).toList = (opCells ⟨m, t, u, b, c⟩).toArray := by
  simp only [putL, opCells, List.setIfInBounds_toArray, List.set_cons_zero, List.set_cons_succ]
theorem putOb (m : Int) (t : Num) (a b c u : Iv) : putL (opCells ⟨m, t, a, b, c⟩).toArray 14 (#[.bool u.emp, .int .i64 u.lo.k, .bool u.lo.n, .int .u64 u.lo.m, .int .i64 u.lo.e, .int .i64 u.hi.k, .bool u.hi.n, .int .u64 u.hi.m, .int .i64 u.hi.e] : Array Value).toList = (opCells ⟨m, t, a, u, c⟩).toArray := by
  simp only [putL, opCells, List.setIfInBounds_toArray, List.set_cons_zero, List.set_cons_succ]
theorem putOc (m : Int) (t : Num) (a b c u : Iv) : putL (opCells ⟨m, t, a, b, c⟩).toArray 23 (#[.bool u.emp, .int .i64 u.lo.k, .bool u.lo.n, .int .u64 u.lo.m, .int .i64 u.lo.e, .int .i64 u.hi.k, .bool u.hi.n, .int .u64 u.hi.m, .int .i64 u.hi.e] : Array Value).toList = (opCells ⟨m, t, a, b, u⟩).toArray := by
  simp only [putL, opCells, List.setIfInBounds_toArray, List.set_cons_zero, List.set_cons_succ]
theorem putSe (e u : Num) (a o : Iv) : putL (slcCells ⟨e, a, o⟩).toArray 0 (#[.int .i64 u.k, .bool u.n, .int .u64 u.m, .int .i64 u.e] : Array Value).toList = (slcCells ⟨u, a, o⟩).toArray := by
  simp only [putL, slcCells, List.setIfInBounds_toArray, List.set_cons_zero, List.set_cons_succ]
theorem putSa (e : Num) (a o u : Iv) : putL (slcCells ⟨e, a, o⟩).toArray 4 (#[.bool u.emp, .int .i64 u.lo.k, .bool u.lo.n, .int .u64 u.lo.m, .int .i64 u.lo.e, .int .i64 u.hi.k, .bool u.hi.n, .int .u64 u.hi.m, .int .i64 u.hi.e] : Array Value).toList = (slcCells ⟨e, u, o⟩).toArray := by
  simp only [putL, slcCells, List.setIfInBounds_toArray, List.set_cons_zero, List.set_cons_succ]
theorem putSo (e : Num) (a o u : Iv) : putL (slcCells ⟨e, a, o⟩).toArray 13 (#[.bool u.emp, .int .i64 u.lo.k, .bool u.lo.n, .int .u64 u.lo.m, .int .i64 u.lo.e, .int .i64 u.hi.k, .bool u.hi.n, .int .u64 u.hi.m, .int .i64 u.hi.e] : Array Value).toList = (slcCells ⟨e, a, u⟩).toArray := by
  simp only [putL, slcCells, List.setIfInBounds_toArray, List.set_cons_zero, List.set_cons_succ]
/-- a tube's cells -/
def tbCells (s : Num) (i : Iv) (v : Value) : List Value := [.int .i64 s.k, .bool s.n, .int .u64 s.m, .int .i64 s.e] ++ [.bool i.emp, .int .i64 i.lo.k, .bool i.lo.n, .int .u64 i.lo.m, .int .i64 i.lo.e, .int .i64 i.hi.k, .bool i.hi.n, .int .u64 i.hi.m, .int .i64 i.hi.e] ++ [v]
theorem putTs (s u : Num) (i : Iv) (v : Value) : putL (tbCells s i v).toArray 0 (#[.int .i64 u.k, .bool u.n, .int .u64 u.m, .int .i64 u.e] : Array Value).toList = (tbCells u i v).toArray := by
  simp only [putL, tbCells, List.cons_append, List.nil_append, List.setIfInBounds_toArray, List.set_cons_zero, List.set_cons_succ]
theorem putTi (s : Num) (i u : Iv) (v : Value) : putL (tbCells s i v).toArray 4 (#[.bool u.emp, .int .i64 u.lo.k, .bool u.lo.n, .int .u64 u.lo.m, .int .i64 u.lo.e, .int .i64 u.hi.k, .bool u.hi.n, .int .u64 u.hi.m, .int .i64 u.hi.e] : Array Value).toList = (tbCells s u v).toArray := by
  simp only [putL, tbCells, List.cons_append, List.nil_append, List.setIfInBounds_toArray, List.set_cons_zero, List.set_cons_succ]
theorem putTv (s : Num) (i : Iv) (v u : Value) : (tbCells s i v).toArray.setIfInBounds 13 u = (tbCells s i u).toArray := by
  simp only [putL, tbCells, List.cons_append, List.nil_append, List.setIfInBounds_toArray, List.set_cons_zero, List.set_cons_succ]
theorem wpList_loadOpG {ops : Array Oper} {rest : List Oper} {o : Oper} {a : Act} {w : World} {Q : Exit → Act → World → Prop} (hw : Region.wanted o (yielded ops a.tmps) = true) (x : Operand) (ho : o.op = .load 82 x)
    (g : Nat) (hx : a.eval x = .pointer (some ⟨g, 0, none⟩)) (y : Op) (hg : Blk w g 82 (opCells y).toArray)
    (h : wpList Try.prog ops Q rest (a.put o.dst (.agg (opCells y).toArray)) w) : wpList Try.prog ops Q (o :: rest) a w :=
  wpList_step fun _ hK => by rw [if_pos hw]; exact wp_load_row 82 x ho g hx 82 _ (0, 0) _ hg Try.underlying82 rfl (by kernel_rfl) (hK _ _ h)
theorem wpList_loadTbG {ops : Array Oper} {rest : List Oper} {o : Oper} {a : Act} {w : World} {Q : Exit → Act → World → Prop} (hw : Region.wanted o (yielded ops a.tmps) = true) (x : Operand) (ho : o.op = .load 34 x)
    (g : Nat) (hx : a.eval x = .pointer (some ⟨g, 0, none⟩)) (s : Num) (i : Iv) (v : Value) (hg : Blk w g 34 (tbCells s i v).toArray)
    (h : wpList Try.prog ops Q rest (a.put o.dst (.agg (tbCells s i v).toArray)) w) : wpList Try.prog ops Q (o :: rest) a w :=
  wpList_step fun _ hK => by rw [if_pos hw]; exact wp_load_row 34 x ho g hx 34 _ (0, 0) _ hg Try.underlying34 rfl (by kernel_rfl) (hK _ _ h)
section
variable {ops : Array Oper} {rest : List Oper} {o : Oper} {a : Act} {Q : Exit → Act → World → Prop} {w : World}
theorem wpList_lit1O (hgd : o.guard = none) (t : Operand) (ho : o.op = .buildSlice 43 1 #[(0, t)]) (x : Op) (hx : a.eval t = .agg (opCells x).toArray)
    (h : wpList Try.prog ops Q rest (a.put o.dst (.slice (some ⟨w.heap.size, 0, none⟩) 1 1)) (w.alloc (.cells (opCells x).toArray 82))) : wpList Try.prog ops Q (o :: rest) a w := by
  obtain ⟨i0, hi, hz0, hz1, hz2⟩ := info_parts infoOp
  refine wpList_buildSlice hgd 43 82 1 #[(0, t)] ho (opCells x).toArray i0 _ Try.underlying43 hi hz0 (by rw [hz1]; omega) (by rw [hz1]; omega) ?_ h
  rw [hz1]
  simp only [List.map_toArray, List.map_cons, List.map_nil, hx]
  exact fill_one _ (by omega) _ _ (by simp) rfl
theorem wpList_lit1S (hgd : o.guard = none) (t : Operand) (ho : o.op = .buildSlice 32 1 #[(0, t)]) (x : Slc) (hx : a.eval t = .agg (slcCells x).toArray)
    (h : wpList Try.prog ops Q rest (a.put o.dst (.slice (some ⟨w.heap.size, 0, none⟩) 1 1)) (w.alloc (.cells (slcCells x).toArray 88))) : wpList Try.prog ops Q (o :: rest) a w := by
  obtain ⟨i0, hi, hz0, hz1, hz2⟩ := info_parts infoSlc
  refine wpList_buildSlice hgd 32 88 1 #[(0, t)] ho (slcCells x).toArray i0 _ Try.underlying32 hi hz0 (by rw [hz1]; omega) (by rw [hz1]; omega) ?_ h
  rw [hz1]
  simp only [List.map_toArray, List.map_cons, List.map_nil, hx]
  exact fill_one _ (by omega) _ _ (by simp) rfl
end
end Go.Proofs.Ytakajahogjeiaab.Wk
