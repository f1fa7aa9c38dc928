/- What a tube has over an interval, as a plain function; small words for the walk of tube.Over. -/
import Derived.Test.YteabdeohhmbclaaGreatAtBy
import Derived.Test.YteabdeohhmbclaaGreatBoxAy
import Derived.Test.YteabdeohhmbclaaGreatOpXy
namespace Go.Proofs.YteabdeohhmbclaaGreat.Wk
open Go.RowKit Go.Shelf Go.Proofs.Pl Go.Proofs.YteabdeohhmbclaaGreatW.PrintLast
set_option linter.unusedSimpArgs false
set_option linter.unusedVariables false

def overStep (x : Iv) (xs : List Slc) (f : Num) (g : Nat × Num × Iv) : List Iv :=
 (if hasI x g.2.1 = true then [g.2.2] else []) ++ (if 0 < g.1 ∧ cmpN x.lo x.hi < 0 ∧ cmpN x.lo g.2.1 < 0 ∧ cmpN f x.hi < 0 then [(sliceAt xs (g.1 - 1)).a] else [])
def overF (x : Iv) (xs : List Slc) (st : List Iv × Num) (l : List (Nat × Num × Iv)) : List Iv × Num := l.foldl (fun st g => (st.1 ++ overStep x xs st.2 g, g.2.1)) st
theorem overF_snoc (x : Iv) (xs : List Slc) (st : List Iv × Num) (l : List (Nat × Num × Iv)) (g : Nat × Num × Iv) : overF x xs st (l ++ [g]) = ((overF x xs st l).1 ++ overStep x xs (overF x xs st l).2 g, g.2.1) := by
 unfold overF
 rw [List.foldl_append]
 rfl
theorem overStep_length (x : Iv) (xs : List Slc) (f : Num) (g : Nat × Num × Iv) : (overStep x xs f g).length ≤ 2 := by
 unfold overStep
 rw [List.length_append]
 split <;> split <;> simp
theorem overF_length (x : Iv) (xs : List Slc) : ∀ (l : List (Nat × Num × Iv)) (st : List Iv × Num), (overF x xs st l).1.length ≤ st.1.length + 2 * l.length
 | [], st => by simp [overF]
 | g :: l, st => by
  have h := overF_length x xs l (st.1 ++ overStep x xs st.2 g, g.2.1)
  have h2 := overStep_length x xs st.2 g
  unfold overF at h ⊢
  simp only [List.foldl_cons, List.length_append, List.length_cons] at h ⊢
  omega
def overT (s : Num) (i : Iv) (xs : List Slc) (x : Iv) : Iv :=
 if (!mayT ⟨s, i, xs⟩ || x.emp || !mayI x) = true then noneI
 else if cmpN x.lo s < 0 ∨ 0 < cmpN x.hi (endT s xs) then allI
 else hullI (overF x xs ([atT s i xs x.lo, atT s i xs x.hi], s) (gatesL s i xs (xs.length + 1))).1

theorem wpListIn_appI {F : Fence} {m : Nat} {ops : Array Oper} {rest : List Oper} {o : Oper} {a : Act} {Q : Exit → Act → World → Prop} {w : World} (hgd : o.guard = none) (s x : Operand) (ho : o.op = .call { callee := .builtin .append, args := #[s, x], argTypes := #[77, 77] }) (base : Nat) (v : Value) (xs : List Iv) (hs : a.eval s = v) (hown : OwnI w base v xs) (B : Nat) (A : Addr) (k c : Nat) (ys : List Iv) (hx : a.eval x = .slice (some A) k c) (hys : SlI w B (some A) k ys) (hsm : xs.length + k ≤ 1000000) (hbase : base ≤ w.heap.size)
  (h : ∀ v' w', OwnI w' base v' (xs ++ ys) → w.grownBy w' v.ownBlock → (v'.ownBlock = v.ownBlock ∨ v'.ownBlock = some w.heap.size) → wpListIn F m Tryz.prog ops Q rest (a.put o.dst v') w') : wpListIn F m Tryz.prog ops Q (o :: rest) a w :=
 wpListIn_plain hgd fun K hK => by
  obtain ⟨v', w', hr, h1, h2, h3⟩ := run_appI base v xs hown o.type B A k c ys hys hsm hbase
  unfold Oper.wpIn
  refine ⟨?_, ?_⟩
  ·simp [Oper.about, ho, resolve, Target.leads, Sem.run_pure]
  ·rw [Oper.semAt_plain F _ _ (by rw [ho]; intro c hc'; cases hc')]
   simp [execOp, ho, resolve, invoke, builtin, hs, hx, hr, Result.andThen]
   exact hK _ _ (h v' w' h1 h2 h3)
theorem stepIn_appI_ {F : Fence} {m : Nat} {ops : Array Oper} {o : Oper} {a : Act} {K : Act → World → Prop} {Q : Exit → Act → World → Prop} {w : World} {E : Prop} (hgd : o.guard = none) (s x : Operand) (ho : o.op = .call { callee := .builtin .append, args := #[s, x], argTypes := #[77, 77] }) (base : Nat) (v : Value) (xs : List Iv) (hs : a.eval s = v) (hown : OwnI w base v xs) (B : Nat) (A : Addr) (k c : Nat) (ys : List Iv) (hx : a.eval x = .slice (some A) k c) (hys : SlI w B (some A) k ys) (hsm : xs.length + k ≤ 1000000) (hbase : base ≤ w.heap.size)
  (h : ∀ v' w', OwnI w' base v' (xs ++ ys) → w.grownBy w' v.ownBlock → (v'.ownBlock = v.ownBlock ∨ v'.ownBlock = some w.heap.size) → K (a.put o.dst v') w') : if Region.wanted o (yielded ops a.tmps) = true then Oper.wpIn F m Tryz.prog o a w K Q else E := by
 have hw : Region.wanted o (yielded ops a.tmps) = true := by simp [Region.wanted, hgd]
 rw [if_pos hw]
 obtain ⟨v', w', hr, h1, h2, h3⟩ := run_appI base v xs hown o.type B A k c ys hys hsm hbase
 unfold Oper.wpIn
 refine ⟨?_, ?_⟩
 ·simp [Oper.about, ho, resolve, Target.leads, Sem.run_pure]
 ·rw [Oper.semAt_plain F _ _ (by rw [ho]; intro c hc'; cases hc')]
  simp [execOp, ho, resolve, invoke, builtin, hs, hx, hr, Result.andThen]
  exact h v' w' h1 h2 h3
def noDefer (ops : Array Oper) : Bool := ops.toList.all fun o => match o.op with | .defer _ => false | _ => true
theorem noDefer_at {ops : Array Oper} (h : noDefer ops = true) {i : Nat} {o : Oper} (ho : ops[i]? = some o) : ∀ c, o.op ≠ .defer c := fun c e => by
 unfold noDefer at h
 rw [List.all_eq_true] at h
 have := h o (by obtain ⟨hl, e⟩ := Array.getElem?_eq_some_iff.1 ho; rw [← e]; exact Array.mem_toList_iff.2 (Array.getElem_mem hl))
 rw [e] at this
 cases this
theorem wpOpIn_inRound {F : Fence} {n : Nat} {P : Program} {ops : Array Oper} {Q : Exit → Act → World → Prop} (l : Nat) (hro : F.round = none) (hnd : noDefer ops = true) {i : Nat} {K : Act → World → Prop} {a : Act} {w : World} (h : wpOpIn F n P ops Q i K a w) : wpOpIn (F.inRound l) n P ops Q i K a w := by
 unfold wpOpIn at *
 cases ho : ops[i]? with
 | none => rw [ho] at h; exact h
 | some o =>
  rw [ho] at h
  dsimp only at h ⊢
  split
  ·rename_i hw
   rw [if_pos hw] at h
   unfold Oper.wpIn at *
   rw [Oper.semAt_eq _ _ _ (noDefer_at hnd ho)] at h ⊢
   exact h
  ·rename_i hw
   rw [if_neg hw] at h
   exact h
theorem wpAnyIn_inRound {F : Fence} {n : Nat} {P : Program} {md : Region.Mode} {ops : Array Oper} {Q : Exit → Act → World → Prop} (l : Nat) (hro : F.round = none) (hnd : noDefer ops = true) : ∀ (fuel : Nat) (listed : Array Bool) (a : Act) (w : World), wpAnyIn F n P md ops Q fuel listed a w → wpAnyIn (F.inRound l) n P md ops Q fuel listed a w
 | 0, _, _, _, h => h
 | fuel + 1, _, _, _, h => ⟨h.1, fun i hi => wpOpIn_inRound l hro hnd (wpOpIn_mono (fun a w => wpAnyIn_inRound l hro hnd fuel _ a w) (h.2 i hi))⟩
theorem gates_last {s : Num} {i : Iv} {xs : List Slc} {k : Nat} {pre : List (Nat × Num × Iv)} {x : Nat × Num × Iv} (h : pre ++ [x] = gatesL s i xs k) : k = x.1 + 1 := by
 cases k with
 | zero => have := congrArg List.length h; simp [gatesL] at this
 | succ j =>
  rw [gatesL_succ] at h
  obtain ⟨_, he⟩ := List.append_inj' h rfl
  simp only [List.cons.injEq, and_true] at he
  rw [he]
theorem wpIn_joinQ {F : Fence} {n : Nat} {c : Code} {a : Act} {W : World} {Q : Exit → Act → World → Prop} (R : Act → World → Prop)
  (h1 : c.wpIn F n Tryz.prog (Exit.then R (fun _ _ _ => False)) a W) (h2 : ∀ x v, R x v → Q .normal x v) : c.wpIn F n Tryz.prog Q a W :=
 Code.wpIn_mono (fun e x v h => by
  cases e with
  | normal => exact h2 x v h
  | _ => exact False.elim h) h1
theorem OwnI.cells_ {w : World} {base g : Nat} {v : Value} {xs : List Iv} (h : OwnI w base v xs) (hg : v.ownBlock = some g) : ∃ cur, Blk w g 34 cur := by
 rcases h.2 with ⟨rfl, hn⟩ | ⟨g', cap, cur, rfl, hb, hgg, rest⟩
 ·cases hg
 ·cases hg
  exact ⟨cur, hgg⟩
theorem OwnI.lit2 {w : World} {g base : Nat} {x y : Iv} (hb : Blk w g 34 #[.b x.emp, .i x.lo.k, .b x.lo.n, .u x.lo.m, .i x.lo.e, .i x.hi.k, .b x.hi.n, .u x.hi.m, .i x.hi.e, .b y.emp, .i y.lo.k, .b y.lo.n, .u y.lo.m, .i y.lo.e, .i y.hi.k, .b y.hi.n, .u y.hi.m, .i y.hi.e]) (hg : base ≤ g) : OwnI w base (.slice (some ⟨g, 0, none⟩) 2 2) [x, y] :=
 ⟨rfl, .inr ⟨g, 2, _, rfl, hg, hb, Nat.le_refl _, by simp [maxLen], rfl, rfl⟩⟩
theorem SlI.lit1_ {w : World} {g B : Nat} {T : TypeId} {x : Iv} (h : Blk w g T (ivCells x).toArray) (hB : g < B) : SlI w B (some ⟨g, 0, none⟩) 1 [x] := by
 refine SlI.ofFlat rfl hB fun j u hu => ?_
 rw [Nat.zero_add, h.cell j]
 simpa [flatI] using hu
theorem OwnI.form_ {w : World} {base : Nat} {v : Value} {xs : List Iv} (h : OwnI w base v xs) : ∃ A n c, v = .slice A n c := by
 obtain ⟨A, c, e, _⟩ := h.sl
 exact ⟨A, _, c, e⟩
theorem Blk.c1_ {w : World} {g : Nat} {t : TypeId} {x0 : Value} (h : Blk w g t #[x0]) : w.cell? ⟨g, 0, none⟩ = some x0 ∧ w.frozen? ⟨g, 0, none⟩ = false := ⟨h.cell 0, h.frozen 0⟩
theorem act_any (a : Act) (T : (Nat → Value) → Array Value) (h : a.tmps = T (fun j => a.tmps.getD j undef)) (hd : a.defers = []) : ∃ y, a = { tmps := T y, defers := [] } := by
 obtain ⟨t, d⟩ := a
 dsimp only at h hd
 exact ⟨_, by rw [hd]; exact congrArg (fun z => ({ tmps := z, defers := [] } : Act)) h⟩
def OvI (w W : World) (TC XC ZC : Array Value) (N g5 g6 : Nat) (L : List Iv) (f : Num) : Prop :=
 ∃ v, Blk W w.heap.size 37 TC ∧ Blk W (w.heap.size + 1) 34 XC ∧ Blk W (w.heap.size + 2) 34 ZC ∧ Blk W N 37 TC ∧ Blk W g5 77 #[v] ∧ OwnI W w.heap.size v L ∧ (∀ k, v.ownBlock = some k → w.heap.size + 2 < k) ∧
  Blk W g6 32 #[.i f.k, .b f.n, .u f.m, .i f.e] ∧ Below w.heap.size w W
section
variable {w W W' : World} {TC XC ZC : Array Value} {N g5 g6 n₀ n₁ B : Nat} {L : List Iv} {f : Num}
theorem blk_ne {t t' : TypeId} {cs cs' : Array Value} {g g' : Nat} (h : Blk W g t cs) (h' : Blk W g' t' cs') (hn : t ≠ t') : g ≠ g' := by
 rintro rfl
 unfold Blk at h h'
 rw [h] at h'
 injection h' with h'
 injection h' with _ h' _
 exact hn h'
theorem OvI.call (h : OvI w W TC XC ZC N g5 g6 L f) (hb : Below W.heap.size W W') : OvI w W' TC XC ZC N g5 g6 L f := by
 obtain ⟨v, h1, h2, h3, h4, h5, h6, h7, h8, h9⟩ := h
 exact ⟨v, h1.call hb, h2.call hb, h3.call hb, h4.call hb, h5.call hb, h6.call hb, h7, h8.call hb, bl_trans h9 hb⟩
theorem OvI.grown {row : Option Nat} (h : OvI w W TC XC ZC N g5 g6 L f) (hg : W.grownBy W' row) (hB : ∀ r, row = some r → w.heap.size + 2 < r ∧ r ≠ N ∧ r ≠ g5 ∧ r ≠ g6 ∧ ∀ cur, ¬ Blk W r 34 cur) : OvI w W' TC XC ZC N g5 g6 L f := by
 obtain ⟨v, h1, h2, h3, h4, h5, h6, h7, h8, h9⟩ := h
 refine ⟨v, h1.grown hg fun e => ?_, h2.grown hg fun e => ?_, h3.grown hg fun e => ?_, h4.grown hg fun e => ?_, h5.grown hg fun e => ?_, h6.same fun k hk => hg.block k (h6.lt k hk).2 fun e => ?_, h7, h8.grown hg fun e => ?_, h9.grown hg h9.size fun k hk => ?_⟩
 ·have := (hB _ e.symm).1; omega
 ·have := (hB _ e.symm).1; omega
 ·have := (hB _ e.symm).1; omega
 ·exact (hB _ e.symm).2.1 rfl
 ·exact (hB _ e.symm).2.2.1 rfl
 ·obtain ⟨cur, hc⟩ := h6.cells_ hk
  exact (hB _ e.symm).2.2.2.2 cur hc
 ·exact (hB _ e.symm).2.2.2.1 rfl
 ·have := (hB _ hk).1; omega
theorem OvI.stay {β : Type} {L : β → List Iv} {f : β → Num} (h2 : w.heap.size + 2 < B) (hN : N < B) (h5 : g5 < B) (h6 : g6 < B) : StayO B boxTs (fun s W => OvI w W TC XC ZC N g5 g6 (L s) (f s)) := by
 intro s X Y row hs hg hr
 refine hs.grown hg fun r e => ?_
 obtain ⟨hB, hx⟩ := hr r e
 refine ⟨by omega, by omega, by omega, by omega, fun cur hc => ?_⟩
 rcases hx with ⟨cs, t, hb, ht⟩ | ⟨o, ho, hcells⟩
 ·rw [show X.heap[r]? = _ from hc] at hb
  cases hb
  simp at ht
 ·rw [show X.heap[r]? = _ from hc] at ho
  cases ho
  cases hcells
def Stp (B n₀ n₁ N : Nat) (W W' : World) : Prop := KeepsFrom B W W' ∧ KpG n₀ n₁ N W W'
theorem Stp.trans {W'' : World} (h : Stp B n₀ n₁ N W W') (k : Stp B n₀ n₁ N W' W'') : Stp B n₀ n₁ N W W'' := ⟨h.1.trans k.1, KpG.trans h.2 k.2⟩
theorem Stp.call (hb : Below W.heap.size W W') (hn : n₀ ≤ W.heap.size) (hN : N < W.heap.size) : Stp B n₀ n₁ N W W' := ⟨keepsFrom_bel hb _, KpG.call hb hn hN⟩
theorem Stp.row {g : Nat} {t : TypeId} {cs : Array Value} (hg : W.grownBy W' (some g)) (hb : Blk W g t cs) (ht : t ≠ 122) (hn : n₀ ≤ g) (h0 : n₀ ≤ W.heap.size) (hgN : g ≠ N) (hN : N < W.heap.size) : Stp B n₀ n₁ N W W' := by
 refine ⟨⟨hg.size, fun k o _ hk ho => ?_⟩, ?_, ?_, fun g' cs' _ hb' => ?_⟩
 ·refine (hg.block k (Array.getElem?_eq_some_iff.1 hk).1 fun e => ?_).trans hk
  cases e
  rw [show W.heap[g]? = _ from hb] at hk
  cases hk
  cases ho
 ·exact ⟨hg.os, hg.tape, hg.output, hg.size, fun k hk => hg.block k (by omega) (by intro e; cases e; omega)⟩
 ·exact hg.block N hN (by intro e; cases e; exact hgN rfl)
 ·exact hb'.grown hg (by intro e; cases e; exact blk_ne hb hb' ht rfl)
theorem OvI.app {w2 w3 : World} {v v3 : Value} {r : Iv} (hB : Below w.heap.size w W) (h1 : Blk W w.heap.size 37 TC) (h2 : Blk W (w.heap.size + 1) 34 XC) (h3 : Blk W (w.heap.size + 2) 34 ZC) (h4 : Blk W N 37 TC) (h5 : Blk W g5 77 #[v]) (h6 : OwnI W w.heap.size v L) (h7 : ∀ k, v.ownBlock = some k → w.heap.size + 2 < k)
  (h8 : Blk W g6 32 #[.i f.k, .b f.n, .u f.m, .i f.e]) (hb : Below W.heap.size W w2) (O3 : OwnI w3 w.heap.size v3 (L ++ [r])) (hg3 : w2.grownBy w3 v.ownBlock) (hat : v3.ownBlock = v.ownBlock ∨ v3.ownBlock = some w2.heap.size) (hg5 : w.heap.size + 2 < g5) :
  OvI w (w3.setCell ⟨g5, 0, none⟩ v3) TC XC ZC N g5 g6 (L ++ [r]) f ∧ Stp B w.heap.size n₁ N W (w3.setCell ⟨g5, 0, none⟩ v3) := by
 have e5 : Blk w2 g5 77 #[v] := h5.call hb
 have e6 := h6.call hb
 have hsz := hb.size
 have hs9 := hB.size
 have hs3 := hg3.size
 have ne : ∀ k t cs, Blk w2 k t cs → k ≤ w.heap.size + 2 ∨ t ≠ 34 → some k ≠ v.ownBlock := fun k t cs hk ho e => by
  obtain ⟨cur, hc⟩ := e6.cells_ e.symm
  rcases ho with h | h
  ·have := h7 _ e.symm; omega
  ·exact blk_ne hk hc h rfl
 have k5 : Blk w3 g5 77 #[v] := e5.grown hg3 (ne _ _ _ e5 (.inr (by decide)))
 have nb : ∀ k t cs, Blk w2 k t cs → k ≤ w.heap.size + 2 ∨ t ≠ 34 → k ≠ g5 → Blk (w3.setCell ⟨g5, 0, none⟩ v3) k t cs := fun k t cs hk ho hn => (hk.grown hg3 (ne _ _ _ hk ho)).far (p := ⟨g5, 0, none⟩) hn v3
 have n3 : ∀ k, v3.ownBlock = some k → w.heap.size + 2 < k := fun k hk => by
  rcases hat with h | h
  ·exact h7 k (h ▸ hk)
  ·rw [h] at hk
   cases hk
   have := h5.lt
   omega
 have hgs : w3.grownBy (w3.setCell ⟨g5, 0, none⟩ v3) (some g5) := grown_set (grown_self w3 (some g5)) 0 v3
 have b3 : Below w.heap.size w (w3.setCell ⟨g5, 0, none⟩ v3) := ((bl_trans hB hb).grown hg3 (Nat.le_trans hs9 hsz) (fun k hk => (h6.lt k hk).1)).setCell (p := ⟨g5, 0, none⟩) (by show w.heap.size ≤ g5; omega) v3
 have hNl := h4.lt
 refine ⟨⟨v3, nb _ _ _ (h1.call hb) (.inl (by omega)) (by omega), nb _ _ _ (h2.call hb) (.inl (by omega)) (by omega), nb _ _ _ (h3.call hb) (.inl (by omega)) (by omega), nb _ _ _ (h4.call hb) (.inr (by decide)) (blk_ne h4 h5 (by decide)), k5.set_ 0 v3, ?_, n3, nb _ _ _ (h8.call hb) (.inr (by decide)) (blk_ne h8 h5 (by decide)), b3⟩, ?_⟩
 ·refine O3.same fun k hk => Below.heap_setCell w3 ⟨g5, 0, none⟩ v3 k ?_
  obtain ⟨cur, hc⟩ := O3.cells_ hk
  exact blk_ne hc k5 (by decide)
 ·refine (Stp.call hb hs9 hNl).trans (Stp.trans (W' := w3) ?_ (Stp.row hgs k5 (by decide) (by omega) (by omega) (blk_ne k5 ((h4.call hb).grown hg3 (ne _ _ _ (h4.call hb) (.inr (by decide)))) (by decide)) (by omega)))
  cases hv : v.ownBlock with
  | none =>
   rw [hv] at hg3
   exact ⟨⟨hg3.size, fun k o _ hk ho => (hg3.block k (Array.getElem?_eq_some_iff.1 hk).1 (by simp)).trans hk⟩, ⟨hg3.os, hg3.tape, hg3.output, hg3.size, fun k hk => hg3.block k (by omega) (by simp)⟩, hg3.block N (by omega) (by simp), fun g' cs' _ hb' => hb'.grown hg3 (by simp)⟩
  | some g =>
   obtain ⟨cur, hc⟩ := e6.cells_ hv
   rw [hv] at hg3
   exact Stp.row hg3 hc (by decide) (by have := h7 g hv; omega) (by omega) (blk_ne hc (h4.call hb) (by decide)) (by omega)
theorem OvI.put6 {u : Num} (h : OvI w W TC XC ZC N g5 g6 L f) (hp : Put W W' g6) (hb : Blk W' g6 32 #[.i u.k, .b u.n, .u u.m, .i u.e]) (h6g : w.heap.size + 2 < g6) : OvI w W' TC XC ZC N g5 g6 L u ∧ Stp B w.heap.size n₁ N W W' := by
 obtain ⟨v, h1, h2, h3, h4, h5, h6, h7, h8, h9⟩ := h
 have h9s := h9.size
 refine ⟨⟨v, hp.blk h1 (by omega), hp.blk h2 (by omega), hp.blk h3 (by omega), hp.blk h4 (blk_ne h4 h8 (by decide)), hp.blk h5 (blk_ne h5 h8 (by decide)), ?_, h7, hb, hp.bel h9 (by omega)⟩, Stp.row hp.grown h8 (by decide) (by omega) h9s (blk_ne h8 h4 (by decide)) h4.lt⟩
 refine h6.same fun k hk => hp.2.2.2.2 k ?_
 obtain ⟨cur, hc⟩ := h6.cells_ hk
 exact blk_ne hc h8 (by decide)
end
theorem OvI.from5 {w : World} {W : World} {TC XC ZC : Array Value} {N g5 g6 : Nat} {L : List Iv} {f : Num} {v : Value} (h1 : Blk W w.heap.size 37 TC) (h2 : Blk W (w.heap.size + 1) 34 XC) (h3 : Blk W (w.heap.size + 2) 34 ZC) (h4 : Blk W N 37 TC) (h5 : Blk W g5 77 #[v]) (h6 : OwnI W w.heap.size v L) (h7 : ∀ k, v.ownBlock = some k → w.heap.size + 2 < k)
  (h8 : Blk W g6 32 #[.i f.k, .b f.n, .u f.m, .i f.e]) (hB : Below w.heap.size w W) : OvI w W TC XC ZC N g5 g6 L f := ⟨v, h1, h2, h3, h4, h5, h6, h7, h8, hB⟩
end Go.Proofs.YteabdeohhmbclaaGreat.Wk
