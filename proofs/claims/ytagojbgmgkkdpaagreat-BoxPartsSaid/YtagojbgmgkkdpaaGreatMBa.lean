import Derived.Test.YtagojbgmgkkdpaaGreatIvE
import Derived.Test.YtagojbgmgkkdpaaGreatStG
import Derived.Test.YtagojbgmgkkdpaaGreatBoxPl
import Derived.Maps.AppendAt
import Derived.Lib.SliceRun
import Derived.Lib.Walk
import Derived.Test.YtagojbgmgkkdpaaGreatArW
import Derived.Laws.CopyRow
import Derived.Laws.MakeOwn
import Derived.Deep.RegionLaw
/- Slices of intervals that the call made; walks: box.none, slices.ContainsFunc at it, box.Empty, slices.Clone. -/
namespace Go.Proofs.YtagojbgmgkkdpaaGreat.Wk
open Go.RowKit Go.Proofs.Pl Go.Proofs.YtagojbgmgkkdpaaGreatW.PrintLast
set_option linter.unusedSimpArgs false
set_option linter.unusedVariables false

theorem infoIv : (Tryz.prog.info? 39).map (fun i => (i.zero, i.size, i.bytes)) = some (some (.agg #[.bool false, .int .i64 0, .bool false, .int .u64 0, .int .i64 0, .int .i64 0, .bool false, .int .u64 0, .int .i64 0]), 9, 72) := by kernel_rfl
def ivCells (x : Iv) : List Value := [.bool x.emp, .int .i64 x.lo.k, .bool x.lo.n, .int .u64 x.lo.m, .int .i64 x.lo.e, .int .i64 x.hi.k, .bool x.hi.n, .int .u64 x.hi.m, .int .i64 x.hi.e]
theorem ivCells_length (x : Iv) : (ivCells x).length = 9 := rfl
def flatI (xs : List Iv) : List Value := xs.flatMap ivCells
theorem flatI_app (xs ys : List Iv) : flatI (xs ++ ys) = flatI xs ++ flatI ys := by simp [flatI]
theorem flatI_length (xs : List Iv) : (flatI xs).length = xs.length * 9 := by
 induction xs with
 | nil => rfl
 | cons a l ih => simp only [flatI, List.flatMap_cons, List.length_append, List.length_cons, ivCells_length] at ih ⊢; omega
theorem flatI_get (xs : List Iv) (j : Nat) : (flatI xs)[j]? = (xs[j / 9]?).bind fun x => (ivCells x)[j % 9]? := by
 induction xs generalizing j with
 | nil => simp [flatI]
 | cons a l ih =>
  show (ivCells a ++ flatI l)[j]? = _
  rcases Nat.lt_or_ge j 9 with h | h
  ·rw [List.getElem?_append_left (by rw [ivCells_length]; exact h), Nat.div_eq_of_lt h, Nat.mod_eq_of_lt h]
   rfl
  ·rw [List.getElem?_append_right (by rw [ivCells_length]; exact h), ivCells_length, ih (j - 9)]
   have e1 : j / 9 = (j - 9) / 9 + 1 := by omega
   have e2 : j % 9 = (j - 9) % 9 := by omega
   rw [e1, e2]
   rfl
theorem flatI_one (xs : List Iv) : ∀ u ∈ flatI xs, u.oneCell' = true := by
 intro u hu
 unfold flatI at hu
 obtain ⟨x, _, hx⟩ := List.mem_flatMap.1 hu
 simp only [ivCells, List.mem_cons, List.not_mem_nil, or_false] at hx
 rcases hx with rfl | rfl | rfl | rfl | rfl | rfl | rfl | rfl | rfl <;> rfl
theorem addAt' (b off k : Nat) : (⟨b, off, none⟩ : Addr).add k = ⟨b, off + k, none⟩ := by
 unfold Addr.add
 split
 ·next h => subst h; rfl
 ·simp
/-- a slice of intervals, by its cells one behind the other -/
theorem SlI.flat {w : World} {B n : Nat} {A : Addr} {xs : List Iv} (h : SlI w B (some A) n xs) : ∀ j u, (flatI xs)[j]? = some u → w.cell? (A.add j) = some u := by
 intro j u hu
 rw [flatI_get] at hu
 cases hx : xs[j / 9]? with
 | none => rw [hx] at hu; cases hu
 | some x =>
  rw [hx] at hu
  have hi : j / 9 < n := by rw [← h.1]; exact (List.getElem?_eq_some_iff.1 hx).1
  obtain ⟨b, off, e, hb, hc⟩ := h.2 (by omega)
  cases e
  rw [addAt']
  obtain ⟨c0, c1, c2, c3, c4, c5, c6, c7, c8⟩ := hc _ x hx
  have hm : j % 9 < 9 := Nat.mod_lt _ (by decide)
  have ej : off + j = off + j / 9 * 9 + j % 9 := by omega
  rw [ej]
  simp only [Option.bind_some, ivCells] at hu
  generalize j % 9 = m at hm hu
  match m, hm, hu with
  | 0, _, hu => simp at hu; subst hu; exact c0
  | 1, _, hu => simp at hu; subst hu; exact c1
  | 2, _, hu => simp at hu; subst hu; exact c2
  | 3, _, hu => simp at hu; subst hu; exact c3
  | 4, _, hu => simp at hu; subst hu; exact c4
  | 5, _, hu => simp at hu; subst hu; exact c5
  | 6, _, hu => simp at hu; subst hu; exact c6
  | 7, _, hu => simp at hu; subst hu; exact c7
  | 8, _, hu => simp at hu; subst hu; exact c8
theorem SlI.ofFlat {w : World} {B n g off : Nat} {xs : List Iv} (hl : xs.length = n) (hg : g < B) (h : ∀ j u, (flatI xs)[j]? = some u → w.cell? ⟨g, off + j, none⟩ = some u) : SlI w B (some ⟨g, off, none⟩) n xs := by
 refine ⟨hl, fun _ => ⟨g, off, rfl, hg, fun i x hx => ?_⟩⟩
 have e : ∀ m u, m < 9 → (ivCells x)[m]? = some u → w.cell? ⟨g, off + i * 9 + m, none⟩ = some u := fun m u hm hu => by
  have := h (i * 9 + m) u (by rw [flatI_get, show (i * 9 + m) / 9 = i from by omega, show (i * 9 + m) % 9 = m from by omega, hx]; exact hu)
  rwa [← Nat.add_assoc] at this
 exact ⟨e 0 _ (by decide) rfl, e 1 _ (by decide) rfl, e 2 _ (by decide) rfl, e 3 _ (by decide) rfl, e 4 _ (by decide) rfl, e 5 _ (by decide) rfl, e 6 _ (by decide) rfl, e 7 _ (by decide) rfl, e 8 _ (by decide) rfl⟩
/-- a slice of intervals that the call made -/
def OwnI (w : World) (base : Nat) (v : Value) (xs : List Iv) : Prop := w.ownsRow base 39 9 v xs.length (flatI xs)
theorem OwnI.sl {w : World} {base : Nat} {v : Value} {xs : List Iv} (h : OwnI w base v xs) : ∃ A c, v = .slice A xs.length c ∧ SlI w w.heap.size A xs.length xs := by
 rcases h.2 with ⟨rfl, hn⟩ | ⟨g, cap, cur, rfl, hb, hg, hnc, hcm, hcs, htake⟩
 ·exact ⟨none, 0, by rw [hn], rfl, fun h0 => absurd hn (by omega)⟩
 ·refine ⟨_, cap, rfl, SlI.ofFlat rfl ?_ fun j u hu => ?_⟩
  ·rcases Nat.lt_or_ge g w.heap.size with hlt | hge
   ·exact hlt
   ·rw [Array.getElem?_eq_none hge] at hg; cases hg
  ·have hj : j < xs.length * 9 := by rw [← flatI_length]; exact (List.getElem?_eq_some_iff.1 hu).1
   rw [Nat.zero_add]
   exact (World.ownsRow.cellAt h j hj).trans hu
theorem OwnI.nil (w : World) (base : Nat) : OwnI w base (.slice none 0 0) [] := World.ownsRow_nil _ _ _ _
theorem OwnI.lt {w : World} {base : Nat} {v : Value} {xs : List Iv} (h : OwnI w base v xs) : ∀ k, v.ownBlock = some k → base ≤ k ∧ k < w.heap.size := World.ownsRow.lt h
theorem OwnI.same {w w' : World} {base : Nat} {v : Value} {xs : List Iv} (h : OwnI w base v xs) (hk : ∀ k, v.ownBlock = some k → w'.heap[k]? = w.heap[k]?) : OwnI w' base v xs := by
 refine ⟨h.1, ?_⟩
 rcases h.2 with hn | ⟨g, cap, cur, rfl, hb, hgg, rest⟩
 ·exact .inl hn
 ·exact .inr ⟨g, cap, cur, rfl, hb, (hk g rfl).trans hgg, rest⟩
theorem OwnI.call {w w' : World} {base : Nat} {v : Value} {xs : List Iv} (h : OwnI w base v xs) (hb : Below w.heap.size w w') : OwnI w' base v xs := h.same fun k hk => hb.block k (h.lt k hk).2
theorem OwnI.alloc {w : World} {base : Nat} {v : Value} {xs : List Iv} (h : OwnI w base v xs) (o : Obj) : OwnI (w.alloc o) base v xs := World.ownsRow.alloc h o
theorem OwnI.drew {w : World} {base : Nat} {v : Value} {xs : List Iv} (h : OwnI w base v xs) : OwnI w.drew base v xs := World.ownsRow.drew h
/-- what a function that hands back a box leaves -/
def ResI (w : World) (xs : List Iv) (e : Ending) (w' : World) : Prop := ∃ A c, e = .returned (.slice A xs.length c) ∧ SlI w' w'.heap.size A xs.length xs ∧ Below w.heap.size w w'
section
variable {ops : Array Oper} {o : Oper} {a : Act} {K : Act → World → Prop} {Q : Exit → Act → World → Prop} {w : World}
theorem run_appI (base : Nat) (v : Value) (xs : List Iv) (hown : OwnI w base v xs) (ty : TypeId) (B : Nat) (A : Addr) (m c : Nat) (ys : List Iv) (hys : SlI w B (some A) m ys) (hsm : xs.length + m ≤ 1000000) (hbase : base ≤ w.heap.size) :
  ∃ v' w', (Builtin.append_ #[22, 22] ty #[v, .slice (some A) m c]).run Tryz.prog w = .ok v' w' ∧ OwnI w' base v' (xs ++ ys) ∧ w.grownBy w' v.ownBlock ∧ (v'.ownBlock = v.ownBlock ∨ v'.ownBlock = some w.heap.size) := by
 obtain ⟨i0, hi, hz0, hz1, hz2⟩ := info_parts infoIv
 obtain ⟨v', w', hr, h2, h3, _, h5⟩ := run_append_own_at (P := Tryz.prog) w base 22 ty 39 i0 _ 9 72 Tryz.underlying22 hi hz0 hz1 hz2 rfl (by omega) v xs.length (flatI xs) hown A m c (flatI ys) (by rw [flatI_length, hys.1]) (SlI.flat hys) (flatI_one ys) (by simp only [maxLen]; omega) (by omega) hbase
 refine ⟨v', w', hr, ?_, h3, h5⟩
 unfold OwnI
 rw [flatI_app, List.length_append, hys.1]
 exact h2
theorem wpList_appI {rest : List Oper} (hgd : o.guard = none) (s x : Operand) (ho : o.op = .call { callee := .builtin .append, args := #[s, x], argTypes := #[22, 22] }) (base : Nat) (v : Value) (xs : List Iv) (hs : a.eval s = v) (hown : OwnI w base v xs) (B : Nat) (A : Addr) (m c : Nat) (ys : List Iv) (hx : a.eval x = .slice (some A) m c) (hys : SlI w B (some A) m ys) (hsm : xs.length + m ≤ 1000000) (hbase : base ≤ w.heap.size)
  (h : ∀ v' w', OwnI w' base v' (xs ++ ys) → w.grownBy w' v.ownBlock → (v'.ownBlock = v.ownBlock ∨ v'.ownBlock = some w.heap.size) → wpList Tryz.prog ops Q rest (a.put o.dst v') w') : wpList Tryz.prog ops Q (o :: rest) a w :=
 wpList_plain hgd fun _ hK => by
  obtain ⟨v', w', hr, h6, h3, h5⟩ := run_appI base v xs hown o.type B A m c ys hys hsm hbase
  unfold Oper.wp execOp
  simp only [ho, resolve, invoke, builtin, Sem.run_bind, Sem.run_pure, Result.andThen_ok, List.map_toArray, List.map_cons, List.map_nil, hs, hx, hr]
  exact hK _ _ (h v' w' h6 h3 h5)
end
theorem SlI.grown {w w' : World} {B n : Nat} {A : Option Addr} {xs : List Iv} {row : Option Nat} (h : SlI w B A n xs) (hg : w.grownBy w' row) (hB : B ≤ w.heap.size) (hr : ∀ k, row = some k → B ≤ k) : SlI w' B A n xs :=
 h.keep fun b o hlt => hg.cell_far ⟨b, o, none⟩ (by show b < w.heap.size; omega) (fun e => by have := hr _ e.symm; dsimp only at this; omega)
theorem SlI.on {w w' : World} {A : Option Addr} {n : Nat} {xs : List Iv} (h : SlI w w.heap.size A n xs) (hb : Below w.heap.size w w') : SlI w' w'.heap.size A n xs := (h.below hb).more hb.size

set_option maxHeartbeats 800000 in
theorem none_calls (a0 : Bool) (a1 : Int) (a2 : Bool) (a3 a4 a5 : Int) (a6 : Bool) (a7 a8 : Int) (w : World) :
  Calls Tryz.prog 40 #[.agg #[.bool a0, .int .i64 a1, .bool a2, .int .u64 a3, .int .i64 a4, .int .i64 a5, .bool a6, .int .u64 a7, .int .i64 a8]] w fun e w' => e = .returned (.bool (noneB ⟨a0, ⟨a1, a2, a3, a4⟩, ⟨a5, a6, a7, a8⟩⟩)) ∧ Below w.heap.size w w' := by
 have HM := Lib.hid (fun W => mayI_calls a0 a1 a2 a3 a4 a5 a6 a7 a8 W)
 have en : noneB ⟨a0, ⟨a1, a2, a3, a4⟩, ⟨a5, a6, a7, a8⟩⟩ = (a0 || !mayI ⟨a0, ⟨a1, a2, a3, a4⟩, ⟨a5, a6, a7, a8⟩⟩) := rfl
 rw [en]
 clear en
 generalize mayI ⟨a0, ⟨a1, a2, a3, a4⟩, ⟨a5, a6, a7, a8⟩⟩ = m at HM ⊢
 cases a0
 ·go_enter Tryz.func40, Tryz.ntmps40
  go_wp2_with (go_at_call 72; (with_reducible refine (HM.out _).mono ?_); rintro e w1 ⟨rfl, hb⟩; have HB := bl_trans (bl_alloc (Below.refl w.heap.size w) _) hb; clear hb)
  all_goals go_ret
  all_goals exact ⟨by first | rfl | simp, HB⟩
 ·go_enter Tryz.func40, Tryz.ntmps40
  go_wp2_with fail
  all_goals go_ret
  all_goals exact ⟨by first | rfl | simp, bl_alloc (Below.refl w.heap.size w) _⟩

set_option maxRecDepth 100000 in
set_option maxHeartbeats 4000000 in
theorem indexNone_calls (A : Option Addr) (n c : Nat) (xs : List Iv) (w : World) (hs : SlI w w.heap.size A n xs) (hn : n ≤ 1000) :
  Calls Tryz.prog 71 #[.slice A n c, .func (.func 40) #[] #[]] w fun e w' => ∃ r, e = .returned (.int .i64 r) ∧ ((0 ≤ r ∧ emptyB xs = true) ∨ (r < 0 ∧ emptyB xs = false)) ∧ Below w.heap.size w w' := by
 go_enter Tryz.func71, Tryz.ntmps71
 go_wp2
 go_loopw [5, 8] (fun _ i wr => ∃ k : Nat, k ≤ n ∧ i = .int .i64 k ∧ (∀ j x, j < k → xs[j]? = some x → noneB x = false) ∧ Below w.heap.size w wr) (fun _ i _ => n - (intOf i).toNat)
 case atStart => exact ⟨0, Nat.zero_le _, rfl, fun j x hj => absurd hj (Nat.not_lt_zero _), Below.refl _ _⟩
 case round =>
  obtain ⟨k, hk, rfl, hall, HB⟩ := hrel
  have Hall := Lib.hid hall
  clear hall
  by_cases hlt : k < n
  ·obtain ⟨b, off, x, rfl, hbB, hx, e0, e1, e2, e3, e4, e5, e6, e7, e8⟩ := (hs.below HB).at_ hlt
   have Hx := Lib.hid hx
   have Hs := Lib.hid hs
   clear hx hs
   obtain ⟨x0, ⟨x1, x2, x3, x4⟩, ⟨x5, x6, x7, x8⟩⟩ := x
   have HO := Lib.hid (fun W => none_calls x0 x1 x2 x3 x4 x5 x6 x7 x8 W)
   generalize hp : noneB ⟨x0, ⟨x1, x2, x3, x4⟩, ⟨x5, x6, x7, x8⟩⟩ = p at HO
   have Hp : ∀ q : Bool, p = q → Hid (noneB ⟨x0, ⟨x1, x2, x3, x4⟩, ⟨x5, x6, x7, x8⟩⟩ = q) := fun q e => hp.trans e
   clear hp
   cases p
   ·have hpe := Hp false rfl
    clear Hp
    go_wp2_with (go_at_call 40; (with_reducible refine (HO.out _).mono ?_); rintro e w1 ⟨rfl, hb⟩; have HB1 := bl_trans HB hb; clear hb)
    go_roundw
    case rel =>
     refine ⟨k + 1, by omega, by go_num, fun j y hj hy => ?_, HB1⟩
     by_cases e : j = k
     ·subst e
      rw [Hx.out] at hy
      cases hy
      exact hpe.out
     ·exact Hall.out j y (by omega) hy
    case measure => simp [intOf]; omega
   ·have hpe := Hp true rfl
    clear Hp
    go_wp2_with (go_at_call 40; (with_reducible refine (HO.out _).mono ?_); rintro e w1 ⟨rfl, hb⟩; have HB1 := bl_trans HB hb; clear hb)
    go_ret
    refine ⟨_, rfl, .inl ⟨by omega, ?_⟩, HB1⟩
    unfold emptyB
    rw [List.any_eq_true]
    exact ⟨_, List.mem_of_getElem? Hx.out, hpe.out⟩
  ·have hkn : k = n := by omega
   subst hkn
   go_wp2
   go_ret
   refine ⟨_, rfl, .inr ⟨by omega, ?_⟩, HB⟩
   unfold emptyB
   rw [List.any_eq_false]
   intro x hx
   obtain ⟨i, hi, rfl⟩ := List.getElem_of_mem hx
   have := Hall.out i xs[i] (by have := hs.1; omega) (List.getElem?_eq_getElem hi)
   simp [this]

set_option maxRecDepth 100000 in
set_option maxHeartbeats 2000000 in
theorem containsNone_calls (A : Option Addr) (n c : Nat) (xs : List Iv) (w : World) (hs : SlI w w.heap.size A n xs) (hn : n ≤ 1000) :
  Calls Tryz.prog 39 #[.slice A n c, .func (.func 40) #[] #[]] w fun e w' => e = .returned (.bool (emptyB xs)) ∧ Below w.heap.size w w' := by
 have HI := Lib.hid (indexNone_calls A n c xs w hs hn)
 generalize emptyB xs = p at HI ⊢
 go_enter Tryz.func39, Tryz.ntmps39
 go_wp2_with (go_at_call 71; refine HI.out.mono ?_; rintro e w1 ⟨r, rfl, hr, hb⟩)
 all_goals go_ret
 all_goals refine ⟨?_, hb⟩
 all_goals (rcases hr with ⟨h1, rfl⟩ | ⟨h1, rfl⟩ <;> first | rfl | (congr 2; simp; omega))
set_option maxHeartbeats 1000000 in
theorem emptyB_calls (A : Option Addr) (n c : Nat) (xs : List Iv) (w : World) (hs : SlI w w.heap.size A n xs) (hn : n ≤ 1000) :
  Calls Tryz.prog 17 #[.slice A n c] w fun e w' => e = .returned (.bool (emptyB xs)) ∧ Below w.heap.size w w' := by
 have HI := Lib.hid (containsNone_calls A n c xs w hs hn)
 generalize emptyB xs = p at HI ⊢
 go_enter Tryz.func17, Tryz.ntmps17
 go_wp2_with (go_at_call 39; refine HI.out.mono ?_; rintro e w1 ⟨rfl, hb⟩)
 go_ret
 exact ⟨rfl, hb⟩

set_option maxRecDepth 100000 in
set_option maxHeartbeats 2000000 in
/-- slices.Clone: the same intervals, in memory of its own -/
theorem clone_calls (A : Option Addr) (n c : Nat) (xs : List Iv) (w : World) (hs : SlI w w.heap.size A n xs) (hn : n ≤ 1000) :
  Calls Tryz.prog 19 #[.slice A n c] w fun e w' => ∃ v, e = .returned v ∧ OwnI w' w.heap.size v xs ∧ Below w.heap.size w w' := by
 have q : ∀ (w : World) (a : Option Addr) (n c n' c' : Nat), (binOp .eql 22 (.slice a n c) (.slice none n' c')).run Tryz.prog w = .ok (.bool a.isNone) w := fun w a n c n' c' => Lib.run_eql_slice_nil w _ _ a n c n' c' Tryz.underlying22
 cases A with
 | none =>
  have h0 : n = 0 := by
   rcases Nat.eq_zero_or_pos n with h | h
   ·exact h
   ·obtain ⟨_, _, e, _⟩ := hs.2 h; cases e
  subst h0
  have hx : xs = [] := List.eq_nil_of_length_eq_zero hs.1
  subst hx
  go_enter Tryz.func19, Tryz.ntmps19
  go_wp2
  go_ret
  exact ⟨_, rfl, OwnI.nil _ _, Below.refl _ _⟩
 | some A =>
  have HS := Lib.hid hs
  have hl := hs.1
  clear hs
  go_enter Tryz.func19, Tryz.ntmps19
  go_wp2_with (refine wpList_appI rfl (.tmp 5) (.tmp 6) rfl w.heap.size _ [] rfl (World.ownsRow_made w #[] 0 (Nat.le_refl _) (Nat.zero_le _) rfl) w.heap.size A n c xs rfl (HS.out.below ((Below.refl _ _).alloc (Nat.le_refl _) _)) (by simp; omega) (by simp) ?_; intro v' w1 hown hgrow hat)
  go_ret
  exact ⟨_, rfl, by simpa using hown, ((Below.refl _ w).alloc (Nat.le_refl _) _).grown hgrow (by simp) (fun k hk => by have h' : some w.heap.size = some k := hk; cases h'; exact Nat.le_refl _)⟩
end Go.Proofs.YtagojbgmgkkdpaaGreat.Wk

/- Walks: slices.Repeat at an interval, box.Fair. -/
namespace Go.Proofs.YtagojbgmgkkdpaaGreat.Wk
open Go.RowKit Go.Proofs.Pl Go.Proofs.YtagojbgmgkkdpaaGreatW.PrintLast
set_option linter.unusedSimpArgs false
set_option linter.unusedVariables false

theorem bitsMul_calls (x y : Nat) (hx : x < 18446744073709551616) (hy : y < 18446744073709551616) (w : World) :
    Calls Tryz.prog 75 #[.int .u64 x, .int .u64 y] w fun e w' => e = .returned (.tuple #[.int .u64 ((x * y / 18446744073709551616 : Nat) : Int), .int .u64 ((x * y % 18446744073709551616 : Nat) : Int)]) ∧ Below w.heap.size w w' := by
  have HM := Lib.hid (fun W => mul64_calls x y hx hy W)
  go_enter Tryz.func75, Tryz.ntmps75
  go_wp2_with (go_at_call 106; (refine (HM.out _).mono ?_); rintro e' w1 ⟨rfl, hb⟩)
  go_ret2
  exact ⟨rfl, hb⟩

section
variable {w : World}
theorem run_copyI (ty : TypeId) (g o dLen dCap : Nat) (A : Addr) (sLen sCap : Nat) (cur : Array Value) (t : TypeId) (ys : List Iv) (hg : w.heap[g]? = some (.cells cur t (0, 0))) (hn : ys.length = Nat.min sLen dLen)
    (hsrc : ∀ j v, (flatI ys)[j]? = some v → w.cell? (A.add j) = some v) (hfit : o + ys.length * 9 ≤ cur.size) :
    (Builtin.copy_ #[22, 22] ty #[.slice (some ⟨g, o, none⟩) dLen dCap, .slice (some A) sLen sCap]).run Tryz.prog w =
      .ok (goInt ys.length) (w.setRow g (cur.toList.take o ++ flatI ys ++ cur.toList.drop (o + (flatI ys).length)).toArray) := by
  obtain ⟨i0, hi, hz0, hz1, hz2⟩ := info_parts infoIv
  have hl := run_loadCells_list (P := Tryz.prog) w A (flatI ys) hsrc
  have hst := run_storeCells_at Tryz.prog g o t (flatI ys) 0 cur w hg (by rw [flatI_length, Nat.add_zero]; exact hfit) (flatI_one ys)
  rw [flatI_length] at hl
  rw [Nat.add_zero] at hst
  simp [Builtin.copy_, run_underlying Tryz.underlying22, Builtin.lenOf, Builtin.firstCells, sizeOf, typeInfo, hi, hz1, ← hn, hl, hst]
variable {ops : Array Oper} {rest : List Oper} {o : Oper} {a : Act} {K : Act → World → Prop} {Q : Exit → Act → World → Prop}
theorem wpList_copyI (hgd : o.guard = none) (d s : Operand) (ho : o.op = .call { callee := .builtin .copy, args := #[d, s], argTypes := #[22, 22] }) (g off dLen dCap : Nat) (A : Addr) (sLen sCap : Nat) (hd : a.eval d = .slice (some ⟨g, off, none⟩) dLen dCap) (hs : a.eval s = .slice (some A) sLen sCap)
    (cur : Array Value) (hg : Blk w g 39 cur) (ys : List Iv) (hn : ys.length = Nat.min sLen dLen) (hsrc : ∀ j v, (flatI ys)[j]? = some v → w.cell? (A.add j) = some v) (hfit : off + ys.length * 9 ≤ cur.size)
    (h : ∀ W1, Blk W1 g 39 (cur.toList.take off ++ flatI ys ++ cur.toList.drop (off + (flatI ys).length)).toArray → Put w W1 g → wpList Tryz.prog ops Q rest (a.put o.dst (goInt ys.length)) W1) : wpList Tryz.prog ops Q (o :: rest) a w :=
  wpList_plain hgd fun _ hK => by
    have hr := run_copyI (w := w) o.type g off dLen dCap A sLen sCap cur 39 ys hg hn hsrc hfit
    unfold Oper.wp execOp
    simp only [ho, resolve, invoke, builtin, Sem.run_bind, Sem.run_pure, Result.andThen_ok, List.map_toArray, List.map_cons, List.map_nil, hd, hs, hr]
    exact hK _ _ (h _ (setRow_heap w g _ _ 39 (0, 0) hg) (Put.row w g _))
theorem wpList_makeI (hgd : o.guard = none) (x y : Operand) (ho : o.op = .makeSlice 22 x y) (n : Nat) (hx : a.eval x = .int .i64 n) (hy : a.eval y = .int .i64 n) (hn : n ≤ 1000000)
    (h : ∀ W1 cs, cs.size = n * 9 → Blk W1 w.heap.size 39 cs → Below w.heap.size w W1 → wpList Tryz.prog ops Q rest (a.put o.dst (.slice (some ⟨w.heap.size, 0, none⟩) n n)) W1) : wpList Tryz.prog ops Q (o :: rest) a w :=
  wpList_plain hgd fun _ hK => by
    obtain ⟨i0, hi, hz0, hz1, hz2⟩ := info_parts infoIv
    have hr := run_make (P := Tryz.prog) w 22 39 i0 _ Tryz.underlying22 hi hz0 .i64 .i64 n n (by omega) (by omega) (by rw [hz2]; omega) (by omega)
    simp only [Int.toNat_natCast] at hr
    unfold Oper.wp execOp
    simp only [ho, hx, hy, Sem.run_bind, hr, Result.andThen_ok]
    exact hK _ _ (h _ _ (by rw [size_madeCells, hz1]) (Blk.new w _ _) ((Below.refl _ _).alloc (Nat.le_refl _) _))
end
theorem step_copyI {w : World} {ops : Array Oper} {o : Oper} {a : Act} {K : Act → World → Prop} {Q : Exit → Act → World → Prop} {E : Prop} (hgd : o.guard = none) (d s : Operand) (ho : o.op = .call { callee := .builtin .copy, args := #[d, s], argTypes := #[22, 22] }) (g off dLen dCap : Nat) (A : Addr) (sLen sCap : Nat) (dp : Option Addr) (hd : a.eval d = .slice dp dLen dCap) (hdp : dp = some ⟨g, off, none⟩) (hs : a.eval s = .slice (some A) sLen sCap)
    (cur : Array Value) (hg : Blk w g 39 cur) (ys : List Iv) (hn : ys.length = Nat.min sLen dLen) (hsrc : ∀ j v, (flatI ys)[j]? = some v → w.cell? (A.add j) = some v) (hfit : off + ys.length * 9 ≤ cur.size)
    (h : ∀ W1, Blk W1 g 39 (cur.toList.take off ++ flatI ys ++ cur.toList.drop (off + (flatI ys).length)).toArray → Put w W1 g → K (a.put o.dst (goInt ys.length)) W1) : if Region.wanted o (yielded ops a.tmps) = true then Oper.wp Tryz.prog o a w K Q else E := by
  subst hdp
  have hw : Region.wanted o (yielded ops a.tmps) = true := by simp [Region.wanted, hgd]
  rw [if_pos hw]
  have hr := run_copyI (w := w) o.type g off dLen dCap A sLen sCap cur 39 ys hg hn hsrc hfit
  unfold Oper.wp execOp
  simp only [ho, resolve, invoke, builtin, Sem.run_bind, Sem.run_pure, Result.andThen_ok, List.map_toArray, List.map_cons, List.map_nil, hd, hs, hr]
  exact h _ (setRow_heap w g _ _ 39 (0, 0) hg) (Put.row w g _)
theorem flatI_repl (k : Nat) (x : Iv) : (flatI (List.replicate k x)).length = k * 9 := by rw [flatI_length, List.length_replicate]
theorem flatI_add (k m : Nat) (x : Iv) : flatI (List.replicate k x) ++ flatI (List.replicate m x) = flatI (List.replicate (k + m) x) := by rw [← flatI_app, List.replicate_append_replicate]
/-- the first k are x -/
def Filled (W : World) (G n k : Nat) (x : Iv) : Prop := ∃ rest : List Value, rest.length = (n - k) * 9 ∧ Blk W G 39 (flatI (List.replicate k x) ++ rest).toArray
theorem Filled.step {W1 : World} {G n k m : Nat} {x : Iv} (rest : List Value) (hr : rest.length = (n - k) * 9) (hm : m ≤ n - k)
    (h : Blk W1 G 39 ((flatI (List.replicate k x) ++ rest).toArray.toList.take (k * 9) ++ flatI (List.replicate m x) ++ (flatI (List.replicate k x) ++ rest).toArray.toList.drop (k * 9 + (flatI (List.replicate m x)).length)).toArray) : Filled W1 G n (k + m) x := by
  refine ⟨rest.drop (m * 9), by rw [List.length_drop, hr]; omega, ?_⟩
  have e1 : (flatI (List.replicate k x) ++ rest).take (k * 9) = flatI (List.replicate k x) := List.take_left' (flatI_repl k x)
  have e2 : (flatI (List.replicate k x) ++ rest).drop (k * 9 + m * 9) = rest.drop (m * 9) := by
    rw [List.drop_append, flatI_repl, List.drop_of_length_le (by rw [flatI_repl]; omega), List.nil_append]
    congr 1; omega
  simp only [List.toList_toArray] at h
  rw [flatI_repl, e1, e2, flatI_add] at h
  exact h
theorem Filled.own {W : World} {G n base : Nat} {x : Iv} (h : Filled W G n n x) (hb : base ≤ G) (hn : n ≤ 1000000) : OwnI W base (.slice (some ⟨G, 0, none⟩) n n) (List.replicate n x) := by
  obtain ⟨rest, hr, hB⟩ := h
  have h0 : rest = [] := List.eq_nil_of_length_eq_zero (by rw [hr]; omega)
  subst h0
  refine ⟨by rw [flatI_length], .inr ⟨G, n, _, by rw [List.length_replicate], hb, hB, by rw [List.length_replicate]; exact Nat.le_refl _, by simp only [maxLen]; omega, by simp [flatI_repl], ?_⟩⟩
  rw [List.length_replicate, List.append_nil, List.toList_toArray]
  exact List.take_of_length_le (by rw [flatI_repl]; exact Nat.le_refl _)
set_option maxRecDepth 100000 in
set_option maxHeartbeats 4000000 in
theorem repeat_calls (A : Addr) (c n : Nat) (x : Iv) (w : World) (hs : SlI w w.heap.size (some A) 1 [x]) (hn : n ≤ 1000) :
    Calls Tryz.prog 44 #[.slice (some A) 1 c, .int .i64 n] w fun e w' => ∃ v, e = .returned v ∧ OwnI w' w.heap.size v (List.replicate n x) ∧ Below w.heap.size w w' := by
  have HM := Lib.hid (fun W => bitsMul_calls 1 n (by omega) (by omega) W)
  rw [Nat.one_mul, Nat.div_eq_of_lt (by omega), Nat.mod_eq_of_lt (by omega)] at HM
  have HB0 := Below.refl w.heap.size w
  have HS := Lib.hid hs
  clear hs
  have hn0 : (0 : Int) ≤ n := by omega
  have hn1 : (n : Int) ≤ 1000 := by omega
  obtain ⟨m0, hm0⟩ : ∃ m0, m0 = Nat.min 1 n := ⟨_, rfl⟩
  have hm1 : m0 ≤ n ∧ m0 ≤ 1 ∧ (0 < n → 0 < m0) := by rw [hm0]; simp only [Nat.min_def]; split <;> omega
  have Hm0 := Lib.hid hm0
  have Hm1 := Lib.hid hm1
  clear hm0 hm1
  go_enter Tryz.func44, Tryz.ntmps44
  go_wp2_with (first
    | (go_at_call 75; (refine (HM.out _).mono ?_); rintro e' w1 ⟨rfl, hb⟩; have HB1 := bl_trans HB0 hb; clear hb)
    | (refine wpList_makeI rfl (.tmp 29) (.tmp 29) rfl n rfl rfl (by omega) ?_; intro W2 cs hcs B2 hb2; have HB2 := bl_trans HB1 hb2; have hG := HB1.size; have Hcs := Lib.hid hcs; clear hcs hb2)
    | (refine wpList_copyI rfl (.tmp 31) (.tmp 32) rfl w1.heap.size 0 n n A 1 c rfl rfl cs B2 (List.replicate m0 x) (by rw [List.length_replicate]; exact Hm0.out) (fun j v hj => ((HS.out.below HB2).flat j v (by have h1 := Hm1.out; have h2 : m0 = 0 ∨ m0 = 1 := (by omega); rcases h2 with h2 | h2 <;> rw [h2] at hj <;> first | (simp [flatI] at hj; done) | exact hj))) (by rw [List.length_replicate, Hcs.out]; have := Hm1.out; omega) ?_
       intro W3 B3 P3
       have HB3 := P3.bel HB2 hG
       have F3 : Filled W3 w1.heap.size n m0 x := by
         refine ⟨cs.toList.drop (m0 * 9), by rw [List.length_drop, Array.length_toList, Hcs.out]; omega, ?_⟩
         rw [flatI_repl, List.take_zero, List.nil_append, Nat.zero_add] at B3
         exact B3
       clear B3 P3))
  generalize w1.heap.size = G at F3 hG
  clear B2 HB2 HB1 HM HS Hm0
  go_loopw [8] (fun i wr => ∃ k : Nat, (k ≤ n ∧ (0 < n → 0 < k)) ∧ i = .int .i64 k ∧ Filled wr G n k x ∧ Below w.heap.size w wr) (fun i _ => n - (intOf i).toNat)
  case atStart => exact ⟨m0, ⟨Hm1.out.1, Hm1.out.2.2⟩, rfl, F3, HB3⟩
  case round =>
    obtain ⟨k, ⟨hk, hk0⟩, rfl, F, HB⟩ := hrel
    have HF := Lib.hid F
    have Hk0 := Lib.hid hk0
    clear F hk0 F3 HB3
    by_cases hlt : k < n
    · obtain ⟨m, hm⟩ : ∃ m, m = Nat.min k (n - k) := ⟨_, rfl⟩
      have hm1 : m ≤ n - k ∧ m ≤ k ∧ 0 < m := by
        have := Hk0.out
        rw [hm]; simp only [Nat.min_def]; split <;> omega
      have Hm := Lib.hid hm
      obtain ⟨hm2, hm3, hm4⟩ := hm1
      obtain ⟨rest, hr, hB⟩ := HF.out
      have HR := Lib.hid hr
      clear hm HF hr
      go_wp2_with fail
      have hnk : ¬ n = k := by omega
      have hB' := hB.drew
      have HB' := bl_drew HB
      refine start_ (n := 10) (S := fun w' => True) (ds := []) (bq 10 0) (by kernel_rfl) rfl rfl trivial (fun hHeld => ?_)
      generalize wr.drew = W4 at hB' HB' hHeld ⊢
      refine pure_ (i := 0) (N := some 38) (v := ?_) (a' := ?_) (bq 10 1) rfl rfl (by kernel_rfl) (fun _ _ _ h => h) (Or.inl ⟨by rfl, ?_⟩) ?_ ?_
      rotate_left
      · intro w'
        go_simp
        with_reducible rfl
      rotate_left
      · simp only [Act.put, pA, pB, pC]
        rfl
      refine pure_ (i := 1) (N := some 39) (v := ?_) (a' := ?_) (bq 10 3) rfl rfl (by kernel_rfl) (fun _ _ _ h => h) (Or.inl ⟨by rfl, ?_⟩) ?_ ?_
      rotate_left
      · intro w'
        go_simp
        with_reducible rfl
      rotate_left
      · simp only [Act.put, pA, pB, pC]
        rfl
      refine pure_ (i := 2) (N := some 40) (v := ?_) (a' := ?_) (bq 10 7) rfl rfl (by kernel_rfl) (fun _ _ _ h => h) (Or.inl ⟨by rfl, ?_⟩) ?_ ?_
      rotate_left
      · intro w'
        go_simp
        with_reducible rfl
      rotate_left
      · simp only [Act.put, pA, pB, pC]
        rfl
      refine pure_ (i := 3) (N := some 41) (v := ?_) (a' := ?_) (bq 10 15) rfl rfl (by kernel_rfl) (fun _ _ _ h => h) (Or.inl ⟨by rfl, ?_⟩) ?_ ?_
      rotate_left
      · intro w'
        go_simp
        with_reducible rfl
      rotate_left
      · simp only [Act.put, pA, pB, pC]
        rfl
      refine pure_ (i := 4) (N := some 42) (v := ?_) (a' := ?_) (bq 10 31) rfl rfl (by kernel_rfl) (fun _ _ _ h => h) (Or.inl ⟨by rfl, ?_⟩) ?_ ?_
      rotate_left
      · intro w'
        go_simp
        with_reducible rfl
      rotate_left
      · simp only [Act.put, pA, pB, pC]
        rfl
      refine pure_ (i := 5) (N := some 43) (v := ?_) (a' := ?_) (bq 10 63) rfl rfl (by kernel_rfl) (fun _ _ _ h => h) (Or.inl ⟨by rfl, ?_⟩) ?_ ?_
      rotate_left
      · intro w'
        go_simp
        with_reducible rfl
      rotate_left
      · simp only [Act.put, pA, pB, pC]
        rfl
      refine pure_ (i := 6) (N := some 44) (v := ?_) (a' := ?_) (bq 10 127) rfl rfl (by kernel_rfl) (fun _ _ _ h => h) (Or.inl ⟨by rfl, ?_⟩) ?_ ?_
      rotate_left
      · intro w'
        go_simp
        with_reducible rfl
      rotate_left
      · simp only [Act.put, pA, pB, pC]
        rfl
      refine one_ (i := 7) (N := some 45) (bq 10 255) rfl rfl (by kernel_rfl) (by decide) (fun K hK => ?_)
      refine step_copyI (by rfl) (.tmp 41) (.tmp 44) (by rfl) G (k * 9) (n - k) (n - k) ⟨G, 0, none⟩ k n _ (by rfl) (by first | rfl | exact if_neg hnk) (by rfl) _ hB' (List.replicate m x) (by rw [List.length_replicate]; exact Hm.out) ?_ ?_ ?_
      · intro j v hj
        rw [addAt', Nat.zero_add, hB'.cell j]
        have hj2 : j < m * 9 := by rw [← flatI_repl m x]; exact (List.getElem?_eq_some_iff.1 hj).1
        rw [List.getElem?_toArray, List.getElem?_append_left (by rw [flatI_repl]; omega), ← hj]
        rw [flatI_get, flatI_get, List.getElem?_replicate, List.getElem?_replicate, if_pos (by omega), if_pos (by omega)]
      · rw [List.length_replicate, List.size_toArray, List.length_append, flatI_repl, HR.out]
        omega
      intro W5 B5 P5
      have F5 := Filled.step rest HR.out hm2 B5
      have HB5 := P5.bel HB' hG
      clear B5 P5
      have e0 : goInt (List.replicate m x).length = .int .i64 m := by rw [List.length_replicate]; rfl
      rw [e0]
      clear e0
      refine hK.out _ _ trivial (fun hHeld => ?_)
      clear hK K
      refine norm_ (a' := ?_) ?_ ?_
      rotate_left
      · show Act.put _ (some 45) _ = _
        simp only [Act.put, pA, pB, pC]
        rfl
      refine pure_ (i := 8) (N := some 46) (v := ?_) (a' := ?_) (bq 10 511) rfl rfl (by kernel_rfl) (fun _ _ _ h => h) (Or.inl ⟨by rfl, ?_⟩) ?_ ?_
      rotate_left
      · intro w'
        go_simp
        with_reducible rfl
      rotate_left
      · simp only [Act.put, pA, pB, pC]
        rfl
      refine pure_ (i := 9) (N := some 8) (v := ?_) (a' := ?_) (bq 10 1023) rfl rfl (by kernel_rfl) (fun _ _ _ h => h) (Or.inl ⟨by rfl, ?_⟩) ?_ ?_
      rotate_left
      · intro w'
        go_simp
        with_reducible rfl
      rotate_left
      · simp only [Act.put, pA, pB, pC]
        rfl
      refine done_ (by kernel_rfl) ?_
      go_wp2
      have hw : IntKind.i64.wrap ((k : Int) + (m : Int)) = ((k + m : Nat) : Int) := by rw [IntKind.wrap_i64]; omega
      go_roundw
      case rel => exact ⟨k + m, ⟨by omega, fun _ => by omega⟩, by rw [hw], F5, HB5⟩
      case measure => rw [hw]; simp only [intOf, Int.toNat_natCast]; omega
    · obtain rfl : k = n := by omega
      go_wp2
      go_ret
      exact ⟨_, rfl, HF.out.own hG (by omega), HB⟩
theorem SlI.lit1 {w : World} {g B : Nat} {T : TypeId} {x : Iv} (h : Blk w g T (ivCells x).toArray) (hB : g < B) : SlI w B (some ⟨g, 0, none⟩) 1 [x] := by
  refine SlI.ofFlat rfl hB fun j u hu => ?_
  rw [Nat.zero_add, h.cell j]
  simpa [flatI] using hu
set_option maxRecDepth 100000 in
set_option maxHeartbeats 4000000 in
theorem fairB_calls (A : Option Addr) (n c : Nat) (xs : List Iv) (w : World) (hs : SlI w w.heap.size A n xs) (hn : n ≤ 1000) :
    Calls Tryz.prog 21 #[.slice A n c] w fun e w' => ∃ v, e = .returned v ∧ OwnI w' w.heap.size v (fairB xs) ∧ Below w.heap.size w w' := by
  have HE := Lib.hid (emptyB_calls A n c xs w hs hn)
  have HS := Lib.hid hs
  unfold fairB
  have hl := hs.1
  have HC := Lib.hid (fun W (h : SlI W W.heap.size A n xs) => clone_calls A n c xs W h hn)
  have HR := Lib.hid (fun A W (h : SlI W W.heap.size (some A) 1 [noneI]) => repeat_calls A 1 n noneI W h hn)
  rw [hl]
  clear hs hl
  generalize emptyB xs = p at HE ⊢
  cases p
  · rw [if_neg (by simp)]
    go_enter Tryz.func21, Tryz.ntmps21
    go_wp2_with (first
      | (go_at_call 17; (refine HE.out.mono ?_); rintro e' w1 ⟨rfl, hb1⟩)
      | (go_at_call 19; (refine (HC.out _ (HS.out.on hb1)).mono ?_); rintro e' w2 ⟨v, rfl, ho, hb2⟩))
    go_ret
    exact ⟨v, rfl, ⟨ho.1, ho.2.imp id (fun ⟨g, cap, cur, h1, h2, h3⟩ => ⟨g, cap, cur, h1, Nat.le_trans hb1.size h2, h3⟩)⟩, bl_trans hb1 hb2⟩
  · rw [if_pos rfl]
    go_enter Tryz.func21, Tryz.ntmps21
    go_wp2_with (first
      | (go_at_call 17; (refine HE.out.mono ?_); rintro e' w1 ⟨rfl, hb1⟩)
      | (go_at_call 45; (refine (noneI_lit _).mono ?_); rintro e' w2 ⟨rfl, hb2⟩; have HB2 := bl_trans hb1 hb2; clear hb1 hb2)
      | (go_at_call 44; (refine (HR.out _ _ (SlI.lit1 (Blk.new w2 39 #[.bool true, .int .i64 0, .bool false, .int .u64 0, .int .i64 0, .int .i64 0, .bool false, .int .u64 0, .int .i64 0]) (by simp))).mono ?_); rintro e' w3 ⟨v, rfl, ho, hb3⟩; have HB3 := bl_alloc HB2 (.cells #[.bool true, .int .i64 0, .bool false, .int .u64 0, .int .i64 0, .int .i64 0, .bool false, .int .u64 0, .int .i64 0] 39)))
    go_ret
    exact ⟨v, rfl, ⟨ho.1, ho.2.imp id (fun ⟨g, cap, cur, h1, h2, h3⟩ => ⟨g, cap, cur, h1, Nat.le_trans HB3.size h2, h3⟩)⟩, bl_trans HB3 hb3⟩
end Go.Proofs.YtagojbgmgkkdpaaGreat.Wk
