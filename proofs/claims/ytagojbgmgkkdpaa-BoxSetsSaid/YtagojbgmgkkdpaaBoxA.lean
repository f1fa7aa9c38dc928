/- Slices of intervals that the call made; walks: box.none, slices.ContainsFunc at it, box.Empty, slices.Clone. -/
import Derived.Test.YtagojbgmgkkdpaaIvE
import Derived.Test.YtagojbgmgkkdpaaStG
import Derived.Test.YtagojbgmgkkdpaaBoxPl
import Derived.Maps.AppendAt
import Derived.Lib.SliceRun
import Derived.Lib.Walk
namespace Go.Proofs.Ytagojbgmgkkdpaa.Wk
open Go.RowKit Go.Proofs.Pl Go.Proofs.YtagojbgmgkkdpaaW.PrintLast
set_option linter.unusedSimpArgs false
set_option linter.unusedVariables false

theorem infoIv : (Try.prog.info? 26).map (fun i => (i.zero, i.size, i.bytes)) = some (some (.agg #[.bool false, .int .i64 0, .bool false, .int .u64 0, .int .i64 0, .int .i64 0, .bool false, .int .u64 0, .int .i64 0]), 9, 72) := by kernel_rfl
def ivCells (x : Iv) : List Value := [.bool x.emp, .int .i64 x.lo.k, .bool x.lo.n, .int .u64 x.lo.m, .int .i64 x.lo.e, .int .i64 x.hi.k, .bool x.hi.n, .int .u64 x.hi.m, .int .i64 x.hi.e]
theorem ivCells_length (x : Iv) : (ivCells x).length = 9 := rfl
def flatI (xs : List Iv) : List Value := xs.flatMap ivCells
theorem flatI_app (xs ys : List Iv) : flatI (xs ++ ys) = flatI xs ++ flatI ys := by simp [flatI]
theorem flatI_length (xs : List Iv) : (flatI xs).length = xs.length * 9 := by
  induction xs with
  | nil => rfl
  | cons a l ih => simp only [flatI, List.flatMap_cons, List.length_append, List.length_cons, ivCells_length] at ih ⊢; omega
theorem flatI_get (xs : List Iv) (j : Nat) : (flatI xs)[j]? = (xs[j / 9]?).bind fun x => (ivCells x)[j % 9]? := by
  induction xs generalizing j with
  | nil => simp [flatI]
  | cons a l ih =>
    show (ivCells a ++ flatI l)[j]? = _
    rcases Nat.lt_or_ge j 9 with h | h
    · rw [List.getElem?_append_left (by rw [ivCells_length]; exact h), Nat.div_eq_of_lt h, Nat.mod_eq_of_lt h]
      rfl
    · rw [List.getElem?_append_right (by rw [ivCells_length]; exact h), ivCells_length, ih (j - 9)]
      have e1 : j / 9 = (j - 9) / 9 + 1 := by omega
      have e2 : j % 9 = (j - 9) % 9 := by omega
      rw [e1, e2]
      rfl
theorem flatI_one (xs : List Iv) : ∀ u ∈ flatI xs, u.oneCell' = true := by
  intro u hu
  unfold flatI at hu
  obtain ⟨x, _, hx⟩ := List.mem_flatMap.1 hu
  simp only [ivCells, List.mem_cons, List.not_mem_nil, or_false] at hx
  rcases hx with rfl | rfl | rfl | rfl | rfl | rfl | rfl | rfl | rfl <;> rfl
theorem addAt' (b off k : Nat) : (⟨b, off, none⟩ : Addr).add k = ⟨b, off + k, none⟩ := by
  unfold Addr.add
  split
  · next h => subst h; rfl
  · simp
/-- a slice of intervals, by its cells one behind the other -/
theorem SlI.flat {w : World} {B n : Nat} {A : Addr} {xs : List Iv} (h : SlI w B (some A) n xs) : ∀ j u, (flatI xs)[j]? = some u → w.cell? (A.add j) = some u := by
  intro j u hu
  rw [flatI_get] at hu
  cases hx : xs[j / 9]? with
  | none => rw [hx] at hu; cases hu
  | some x =>
    rw [hx] at hu
    have hi : j / 9 < n := by rw [← h.1]; exact (List.getElem?_eq_some_iff.1 hx).1
    obtain ⟨b, off, e, hb, hc⟩ := h.2 (by omega)
    cases e
    rw [addAt']
    obtain ⟨c0, c1, c2, c3, c4, c5, c6, c7, c8⟩ := hc _ x hx
    have hm : j % 9 < 9 := Nat.mod_lt _ (by decide)
    have ej : off + j = off + j / 9 * 9 + j % 9 := by omega
    rw [ej]
    simp only [Option.bind_some, ivCells] at hu
    generalize j % 9 = m at hm hu
    match m, hm, hu with
    | 0, _, hu => simp at hu; subst hu; exact c0
    | 1, _, hu => simp at hu; subst hu; exact c1
    | 2, _, hu => simp at hu; subst hu; exact c2
    | 3, _, hu => simp at hu; subst hu; exact c3
    | 4, _, hu => simp at hu; subst hu; exact c4
    | 5, _, hu => simp at hu; subst hu; exact c5
    | 6, _, hu => simp at hu; subst hu; exact c6
    | 7, _, hu => simp at hu; subst hu; exact c7
    | 8, _, hu => simp at hu; subst hu; exact c8
theorem SlI.ofFlat {w : World} {B n g off : Nat} {xs : List Iv} (hl : xs.length = n) (hg : g < B) (h : ∀ j u, (flatI xs)[j]? = some u → w.cell? ⟨g, off + j, none⟩ = some u) : SlI w B (some ⟨g, off, none⟩) n xs := by
  refine ⟨hl, fun _ => ⟨g, off, rfl, hg, fun i x hx => ?_⟩⟩
  have e : ∀ m u, m < 9 → (ivCells x)[m]? = some u → w.cell? ⟨g, off + i * 9 + m, none⟩ = some u := fun m u hm hu => by
    have := h (i * 9 + m) u (by rw [flatI_get, show (i * 9 + m) / 9 = i from by omega, show (i * 9 + m) % 9 = m from by omega, hx]; exact hu)
    rwa [← Nat.add_assoc] at this
  exact ⟨e 0 _ (by decide) rfl, e 1 _ (by decide) rfl, e 2 _ (by decide) rfl, e 3 _ (by decide) rfl, e 4 _ (by decide) rfl, e 5 _ (by decide) rfl, e 6 _ (by decide) rfl, e 7 _ (by decide) rfl, e 8 _ (by decide) rfl⟩
/-- a slice of intervals that the call made -/
def OwnI (w : World) (base : Nat) (v : Value) (xs : List Iv) : Prop := w.ownsRow base 26 9 v xs.length (flatI xs)
theorem OwnI.sl {w : World} {base : Nat} {v : Value} {xs : List Iv} (h : OwnI w base v xs) : ∃ A c, v = .slice A xs.length c ∧ SlI w w.heap.size A xs.length xs := by
  rcases h.2 with ⟨rfl, hn⟩ | ⟨g, cap, cur, rfl, hb, hg, hnc, hcm, hcs, htake⟩
  · exact ⟨none, 0, by rw [hn], rfl, fun h0 => absurd hn (by omega)⟩
  · refine ⟨_, cap, rfl, SlI.ofFlat rfl ?_ fun j u hu => ?_⟩
    · rcases Nat.lt_or_ge g w.heap.size with hlt | hge
      · exact hlt
      · rw [Array.getElem?_eq_none hge] at hg; cases hg
    · have hj : j < xs.length * 9 := by rw [← flatI_length]; exact (List.getElem?_eq_some_iff.1 hu).1
      rw [Nat.zero_add]
      exact (World.ownsRow.cellAt h j hj).trans hu
theorem OwnI.nil (w : World) (base : Nat) : OwnI w base (.slice none 0 0) [] := World.ownsRow_nil _ _ _ _
theorem OwnI.lt {w : World} {base : Nat} {v : Value} {xs : List Iv} (h : OwnI w base v xs) : ∀ k, v.ownBlock = some k → base ≤ k ∧ k < w.heap.size := World.ownsRow.lt h
theorem OwnI.same {w w' : World} {base : Nat} {v : Value} {xs : List Iv} (h : OwnI w base v xs) (hk : ∀ k, v.ownBlock = some k → w'.heap[k]? = w.heap[k]?) : OwnI w' base v xs := by
  refine ⟨h.1, ?_⟩
  rcases h.2 with hn | ⟨g, cap, cur, rfl, hb, hgg, rest⟩
  · exact .inl hn
  · exact .inr ⟨g, cap, cur, rfl, hb, (hk g rfl).trans hgg, rest⟩
theorem OwnI.call {w w' : World} {base : Nat} {v : Value} {xs : List Iv} (h : OwnI w base v xs) (hb : Below w.heap.size w w') : OwnI w' base v xs := h.same fun k hk => hb.block k (h.lt k hk).2
theorem OwnI.alloc {w : World} {base : Nat} {v : Value} {xs : List Iv} (h : OwnI w base v xs) (o : Obj) : OwnI (w.alloc o) base v xs := World.ownsRow.alloc h o
theorem OwnI.drew {w : World} {base : Nat} {v : Value} {xs : List Iv} (h : OwnI w base v xs) : OwnI w.drew base v xs := World.ownsRow.drew h
/-- what a function that hands back a box leaves -/
def ResI (w : World) (xs : List Iv) (e : Ending) (w' : World) : Prop := ∃ A c, e = .returned (.slice A xs.length c) ∧ SlI w' w'.heap.size A xs.length xs ∧ Below w.heap.size w w'
section
variable {ops : Array Oper} {o : Oper} {a : Act} {K : Act → World → Prop} {Q : Exit → Act → World → Prop} {w : World}
theorem run_appI (base : Nat) (v : Value) (xs : List Iv) (hown : OwnI w base v xs) (ty : TypeId) (B : Nat) (A : Addr) (m c : Nat) (ys : List Iv) (hys : SlI w B (some A) m ys) (hsm : xs.length + m ≤ 1000000) (hbase : base ≤ w.heap.size) :
    ∃ v' w', (Builtin.append_ #[41, 41] ty #[v, .slice (some A) m c]).run Try.prog w = .ok v' w' ∧ OwnI w' base v' (xs ++ ys) ∧ w.grownBy w' v.ownBlock ∧ (v'.ownBlock = v.ownBlock ∨ v'.ownBlock = some w.heap.size) := by
  obtain ⟨i0, hi, hz0, hz1, hz2⟩ := info_parts infoIv
  obtain ⟨v', w', hr, h2, h3, _, h5⟩ := run_append_own_at (P := Try.prog) w base 41 ty 26 i0 _ 9 72 Try.underlying41 hi hz0 hz1 hz2 rfl (by omega) v xs.length (flatI xs) hown A m c (flatI ys) (by rw [flatI_length, hys.1]) (SlI.flat hys) (flatI_one ys) (by simp only [maxLen]; omega) (by omega) hbase
  refine ⟨v', w', hr, ?_, h3, h5⟩
  unfold OwnI
  rw [flatI_app, List.length_append, hys.1]
  exact h2
theorem wpList_appI {rest : List Oper} (hgd : o.guard = none) (s x : Operand) (ho : o.op = .call { callee := .builtin .append, args := #[s, x], argTypes := #[41, 41] }) (base : Nat) (v : Value) (xs : List Iv) (hs : a.eval s = v) (hown : OwnI w base v xs) (B : Nat) (A : Addr) (m c : Nat) (ys : List Iv) (hx : a.eval x = .slice (some A) m c) (hys : SlI w B (some A) m ys) (hsm : xs.length + m ≤ 1000000) (hbase : base ≤ w.heap.size)
    (h : ∀ v' w', OwnI w' base v' (xs ++ ys) → w.grownBy w' v.ownBlock → (v'.ownBlock = v.ownBlock ∨ v'.ownBlock = some w.heap.size) → wpList Try.prog ops Q rest (a.put o.dst v') w') : wpList Try.prog ops Q (o :: rest) a w :=
  wpList_plain hgd fun _ hK => by
    obtain ⟨v', w', hr, h6, h3, h5⟩ := run_appI base v xs hown o.type B A m c ys hys hsm hbase
    unfold Oper.wp execOp
    simp only [ho, resolve, invoke, builtin, Sem.run_bind, Sem.run_pure, Result.andThen_ok, List.map_toArray, List.map_cons, List.map_nil, hs, hx, hr]
    exact hK _ _ (h v' w' h6 h3 h5)
end
theorem SlI.grown {w w' : World} {B n : Nat} {A : Option Addr} {xs : List Iv} {row : Option Nat} (h : SlI w B A n xs) (hg : w.grownBy w' row) (hB : B ≤ w.heap.size) (hr : ∀ k, row = some k → B ≤ k) : SlI w' B A n xs :=
  h.keep fun b o hlt => hg.cell_far ⟨b, o, none⟩ (by show b < w.heap.size; omega) (fun e => by have := hr _ e.symm; dsimp only at this; omega)
theorem SlI.on {w w' : World} {A : Option Addr} {n : Nat} {xs : List Iv} (h : SlI w w.heap.size A n xs) (hb : Below w.heap.size w w') : SlI w' w'.heap.size A n xs := (h.below hb).more hb.size

set_option maxHeartbeats 800000 in
theorem none_calls (a0 : Bool) (a1 : Int) (a2 : Bool) (a3 a4 a5 : Int) (a6 : Bool) (a7 a8 : Int) (w : World) :
    Calls Try.prog 85 #[.agg #[.bool a0, .int .i64 a1, .bool a2, .int .u64 a3, .int .i64 a4, .int .i64 a5, .bool a6, .int .u64 a7, .int .i64 a8]] w fun e w' => e = .returned (.bool (noneB ⟨a0, ⟨a1, a2, a3, a4⟩, ⟨a5, a6, a7, a8⟩⟩)) ∧ Below w.heap.size w w' := by
  have HM := Lib.hid (fun W => mayI_calls a0 a1 a2 a3 a4 a5 a6 a7 a8 W)
  have en : noneB ⟨a0, ⟨a1, a2, a3, a4⟩, ⟨a5, a6, a7, a8⟩⟩ = (a0 || !mayI ⟨a0, ⟨a1, a2, a3, a4⟩, ⟨a5, a6, a7, a8⟩⟩) := rfl
  rw [en]
  clear en
  generalize mayI ⟨a0, ⟨a1, a2, a3, a4⟩, ⟨a5, a6, a7, a8⟩⟩ = m at HM ⊢
  cases a0
  · go_enter Try.func85, Try.ntmps85
    go_wp2_with (go_at_call 14; (with_reducible refine (HM.out _).mono ?_); rintro e w1 ⟨rfl, hb⟩; have HB := bl_trans (bl_alloc (Below.refl w.heap.size w) _) hb; clear hb)
    all_goals go_ret
    all_goals exact ⟨by first | rfl | simp, HB⟩
  · go_enter Try.func85, Try.ntmps85
    go_wp2_with fail
    all_goals go_ret
    all_goals exact ⟨by first | rfl | simp, bl_alloc (Below.refl w.heap.size w) _⟩

set_option maxRecDepth 100000 in
set_option maxHeartbeats 4000000 in
theorem indexNone_calls (A : Option Addr) (n c : Nat) (xs : List Iv) (w : World) (hs : SlI w w.heap.size A n xs) (hn : n ≤ 1000) :
    Calls Try.prog 117 #[.slice A n c, .func (.func 85) #[] #[]] w fun e w' => ∃ r, e = .returned (.int .i64 r) ∧ ((0 ≤ r ∧ emptyB xs = true) ∨ (r < 0 ∧ emptyB xs = false)) ∧ Below w.heap.size w w' := by
  go_enter Try.func117, Try.ntmps117
  go_wp2
  go_loopw [5, 8] (fun _ i wr => ∃ k : Nat, k ≤ n ∧ i = .int .i64 k ∧ (∀ j x, j < k → xs[j]? = some x → noneB x = false) ∧ Below w.heap.size w wr) (fun _ i _ => n - (intOf i).toNat)
  case atStart => exact ⟨0, Nat.zero_le _, rfl, fun j x hj => absurd hj (Nat.not_lt_zero _), Below.refl _ _⟩
  case round =>
    obtain ⟨k, hk, rfl, hall, HB⟩ := hrel
    have Hall := Lib.hid hall
    clear hall
    by_cases hlt : k < n
    · obtain ⟨b, off, x, rfl, hbB, hx, e0, e1, e2, e3, e4, e5, e6, e7, e8⟩ := (hs.below HB).at_ hlt
      have Hx := Lib.hid hx
      have Hs := Lib.hid hs
      clear hx hs
      obtain ⟨x0, ⟨x1, x2, x3, x4⟩, ⟨x5, x6, x7, x8⟩⟩ := x
      have HO := Lib.hid (fun W => none_calls x0 x1 x2 x3 x4 x5 x6 x7 x8 W)
      generalize hp : noneB ⟨x0, ⟨x1, x2, x3, x4⟩, ⟨x5, x6, x7, x8⟩⟩ = p at HO
      have Hp : ∀ q : Bool, p = q → Hid (noneB ⟨x0, ⟨x1, x2, x3, x4⟩, ⟨x5, x6, x7, x8⟩⟩ = q) := fun q e => hp.trans e
      clear hp
      cases p
      · have hpe := Hp false rfl
        clear Hp
        go_wp2_with (go_at_call 85; (with_reducible refine (HO.out _).mono ?_); rintro e w1 ⟨rfl, hb⟩; have HB1 := bl_trans HB hb; clear hb)
        go_roundw
        case rel =>
          refine ⟨k + 1, by omega, by go_num, fun j y hj hy => ?_, HB1⟩
          by_cases e : j = k
          · subst e
            rw [Hx.out] at hy
            cases hy
            exact hpe.out
          · exact Hall.out j y (by omega) hy
        case measure => simp [intOf]; omega
      · have hpe := Hp true rfl
        clear Hp
        go_wp2_with (go_at_call 85; (with_reducible refine (HO.out _).mono ?_); rintro e w1 ⟨rfl, hb⟩; have HB1 := bl_trans HB hb; clear hb)
        go_ret
        refine ⟨_, rfl, .inl ⟨by omega, ?_⟩, HB1⟩
        unfold emptyB
        rw [List.any_eq_true]
        exact ⟨_, List.mem_of_getElem? Hx.out, hpe.out⟩
    · have hkn : k = n := by omega
      subst hkn
      go_wp2
      go_ret
      refine ⟨_, rfl, .inr ⟨by omega, ?_⟩, HB⟩
      unfold emptyB
      rw [List.any_eq_false]
      intro x hx
      obtain ⟨i, hi, rfl⟩ := List.getElem_of_mem hx
      have := Hall.out i xs[i] (by have := hs.1; omega) (List.getElem?_eq_getElem hi)
      simp [this]

set_option maxRecDepth 100000 in
set_option maxHeartbeats 2000000 in
theorem containsNone_calls (A : Option Addr) (n c : Nat) (xs : List Iv) (w : World) (hs : SlI w w.heap.size A n xs) (hn : n ≤ 1000) :
    Calls Try.prog 84 #[.slice A n c, .func (.func 85) #[] #[]] w fun e w' => e = .returned (.bool (emptyB xs)) ∧ Below w.heap.size w w' := by
  have HI := Lib.hid (indexNone_calls A n c xs w hs hn)
  generalize emptyB xs = p at HI ⊢
  go_enter Try.func84, Try.ntmps84
  go_wp2_with (go_at_call 117; refine HI.out.mono ?_; rintro e w1 ⟨r, rfl, hr, hb⟩)
  all_goals go_ret
  all_goals refine ⟨?_, hb⟩
  all_goals (rcases hr with ⟨h1, rfl⟩ | ⟨h1, rfl⟩ <;> first | rfl | (congr 2; simp; omega))
set_option maxHeartbeats 1000000 in
theorem emptyB_calls (A : Option Addr) (n c : Nat) (xs : List Iv) (w : World) (hs : SlI w w.heap.size A n xs) (hn : n ≤ 1000) :
    Calls Try.prog 40 #[.slice A n c] w fun e w' => e = .returned (.bool (emptyB xs)) ∧ Below w.heap.size w w' := by
  have HI := Lib.hid (containsNone_calls A n c xs w hs hn)
  generalize emptyB xs = p at HI ⊢
  go_enter Try.func40, Try.ntmps40
  go_wp2_with (go_at_call 84; refine HI.out.mono ?_; rintro e w1 ⟨rfl, hb⟩)
  go_ret
  exact ⟨rfl, hb⟩

set_option maxRecDepth 100000 in
set_option maxHeartbeats 2000000 in
/-- slices.Clone: the same intervals, in memory of its own -/
theorem clone_calls (A : Option Addr) (n c : Nat) (xs : List Iv) (w : World) (hs : SlI w w.heap.size A n xs) (hn : n ≤ 1000) :
    Calls Try.prog 83 #[.slice A n c] w fun e w' => ∃ v, e = .returned v ∧ OwnI w' w.heap.size v xs ∧ Below w.heap.size w w' := by
  have q : ∀ (w : World) (a : Option Addr) (n c n' c' : Nat), (binOp .eql 41 (.slice a n c) (.slice none n' c')).run Try.prog w = .ok (.bool a.isNone) w := fun w a n c n' c' => Lib.run_eql_slice_nil w _ _ a n c n' c' Try.underlying41
  cases A with
  | none =>
    have h0 : n = 0 := by
      rcases Nat.eq_zero_or_pos n with h | h
      · exact h
      · obtain ⟨_, _, e, _⟩ := hs.2 h; cases e
    subst h0
    have hx : xs = [] := List.eq_nil_of_length_eq_zero hs.1
    subst hx
    go_enter Try.func83, Try.ntmps83
    go_wp2
    go_ret
    exact ⟨_, rfl, OwnI.nil _ _, Below.refl _ _⟩
  | some A =>
    have HS := Lib.hid hs
    have hl := hs.1
    clear hs
    go_enter Try.func83, Try.ntmps83
    go_wp2_with (refine wpList_appI rfl (.tmp 5) (.tmp 6) rfl w.heap.size _ [] rfl (World.ownsRow_made w #[] 0 (Nat.le_refl _) (Nat.zero_le _) rfl) w.heap.size A n c xs rfl (HS.out.below ((Below.refl _ _).alloc (Nat.le_refl _) _)) (by simp; omega) (by simp) ?_; intro v' w1 hown hgrow hat)
    go_ret
    exact ⟨_, rfl, by simpa using hown, ((Below.refl _ w).alloc (Nat.le_refl _) _).grown hgrow (by simp) (fun k hk => by have h' : some w.heap.size = some k := hk; cases h'; exact Nat.le_refl _)⟩
end Go.Proofs.Ytagojbgmgkkdpaa.Wk
