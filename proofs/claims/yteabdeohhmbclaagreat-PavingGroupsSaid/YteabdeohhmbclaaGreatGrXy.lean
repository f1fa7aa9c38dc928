import Derived.Test.YteabdeohhmbclaaGreatGrBy
import Derived.Test.YteabdeohhmbclaaGreatSrtLy
import Derived.Sort.OwnSortedInts
import Derived.Laws.OwnMore
namespace Go.Proofs.YteabdeohhmbclaaGreat.Wk
open Go.RowKit Go.Shelf Go.Sort Go.Proofs.Pl Go.Proofs.YteabdeohhmbclaaGreatW.PrintLast
set_option linter.unusedSimpArgs false
set_option linter.unusedVariables false
theorem flat_intC (xs : List Nat) : xs.flatMap intC = (xs.map Int.ofNat).map (Value.int .i64) := by
 induction xs with
 | nil => rfl
 | cons a l ih => rw [List.flatMap_cons, ih]; rfl
theorem sortK_calls (base : Nat) (vo : Value) (xs : List Nat) (w : World) (ho : OwnK w base vo xs) (hne : xs ≠ []) (hl : xs.length ≤ 1000000) :
  Calls Tryz.prog 12 #[vo] w fun e w' => e = .returned (.tuple #[]) ∧ OwnK w' base vo (srt xs) ∧ w.grownBy w' vo.ownBlock := by
 rcases ho.2 with ⟨_, hn⟩ | ⟨g, cap, cur, rfl, hb, hg, hnc, hcm, hcs, htake⟩
 ·exact absurd (List.eq_nil_of_length_eq_zero hn) hne
 ·have hlen : (xs.map Int.ofNat).length = xs.length := List.length_map _
  rw [Nat.mul_one, flat_intC] at htake
  have hH : Holds (Value.int .i64) w g 0 (xs.map Int.ofNat).toArray := holds_of_blockI hg (by rw [hlen]; exact htake)
  have hgl : g < w.heap.size := (ho.lt g rfl).2
  have hsort := sort_calls g 0 cap (xs.map Int.ofNat) w hH hgl (by rw [hlen]; omega)
  rw [hlen] at hsort
  refine hsort.mono ?_
  rintro e w' ⟨rfl, n, os, rfl⟩
  rw [← srt_ints]
  refine ⟨rfl, ?_, grownBy_sortedI _⟩
  have hls : ((srt xs).map Int.ofNat).length = (xs.map Int.ofNat).length := by rw [List.length_map, (srt_perm xs).length_eq, hlen]
  have h := ownsRow_sortedI (w := w) (base := base) (g := g) (cap := cap) (n := n) (e := 3) (os := os) (cur := cur) (ss := xs.map Int.ofNat) (ts := (srt xs).map Int.ofNat) hls hb hg (by rw [hlen]; exact hnc) hcm hcs
  rw [hlen, ← flat_intC] at h
  unfold OwnK OwnG
  rw [(srt_perm xs).length_eq]
  exact h
abbrev Hd := Option Addr × Nat × Nat
def Hd.val (h : Hd) : Value := .slice h.1 h.2.1 h.2.2
def hdC (h : Hd) : List Value := [Hd.val h]
theorem hdC_length (h : Hd) : (hdC h).length = 1 := rfl
theorem hdC_one (h : Hd) : ∀ u ∈ hdC h, u.oneCell' = true := fun u hu => by rw [List.mem_singleton.1 hu]; rfl
abbrev OwnH (w : World) (base : Nat) (v : Value) (xs : List Hd) : Prop := OwnG hdC 1 26 w base v xs
theorem infoHd : (Tryz.prog.info? 26).map (fun i => (i.zero, i.size, i.bytes)) = some (some (.slice none 0 0), 1, 24) := by kernel_rfl
theorem run_appH {w : World} (base : Nat) (v : Value) (xs : List Hd) (hown : OwnH w base v xs) (ty : TypeId) (B : Nat) (A : Addr) (m c : Nat) (ys : List Hd) (hys : SlG hdC 1 w B (some A) m ys) (hsm : xs.length + m ≤ 1000000) (hbase : base ≤ w.heap.size) :
  ∃ v' w', (Builtin.append_ #[24, 24] ty #[v, .slice (some A) m c]).run Tryz.prog w = .ok v' w' ∧ OwnH w' base v' (xs ++ ys) ∧ w.grownBy w' v.ownBlock ∧ (v'.ownBlock = v.ownBlock ∨ v'.ownBlock = some w.heap.size) := by
 obtain ⟨i0, hi, hz0, hz1, hz2⟩ := info_parts infoHd
 obtain ⟨v', w', hr, h2, h3, _, h5⟩ := run_append_own_at (P := Tryz.prog) w base 24 ty 26 i0 _ 1 24 Tryz.underlying24 hi hz0 hz1 hz2 rfl (by omega) v xs.length (xs.flatMap hdC) hown A m c (ys.flatMap hdC) (by rw [flatG_length hdC_length, hys.1]) (SlG.flat hdC_length (by decide) hys) (flatG_one hdC_one ys) (by simp only [maxLen]; omega) (by omega) hbase
 refine ⟨v', w', hr, ?_, h3, h5⟩
 unfold OwnH OwnG
 rw [List.flatMap_append, List.length_append, hys.1]
 exact h2
section
variable {ops : Array Oper} {o : Oper} {a : Act} {Q : Exit → Act → World → Prop} {w : World} {rest : List Oper}
theorem wpList_appH (hgd : o.guard = none) (s x : Operand) (ho : o.op = .call { callee := .builtin .append, args := #[s, x], argTypes := #[24, 24] }) (base : Nat) (v : Value) (xs : List Hd) (hs : a.eval s = v) (hown : OwnH w base v xs) (B : Nat) (A : Addr) (m c : Nat) (ys : List Hd) (hx : a.eval x = .slice (some A) m c) (hys : SlG hdC 1 w B (some A) m ys) (hsm : xs.length + m ≤ 1000000) (hbase : base ≤ w.heap.size)
  (h : ∀ v' w', OwnH w' base v' (xs ++ ys) → w.grownBy w' v.ownBlock → (v'.ownBlock = v.ownBlock ∨ v'.ownBlock = some w.heap.size) → wpList Tryz.prog ops Q rest (a.put o.dst v') w') : wpList Tryz.prog ops Q (o :: rest) a w :=
 wpList_plain hgd fun _ hK => by
  obtain ⟨v', w', hr, h6, h3, h5⟩ := run_appH base v xs hown o.type B A m c ys hys hsm hbase
  unfold Oper.wp execOp
  simp only [ho, resolve, invoke, builtin, Sem.run_bind, Sem.run_pure, Result.andThen_ok, List.map_toArray, List.map_cons, List.map_nil, hs, hx, hr]
  exact hK _ _ (h v' w' h6 h3 h5)
theorem infoBool : (Tryz.prog.info? 4).map (fun i => (i.zero, i.size, i.bytes)) = some (some (.b false), 1, 1) := by kernel_rfl
theorem madeB (n : Nat) : madeCells #[Value.bool false] n = ((List.replicate n false).map Value.bool).toArray := by
 apply Array.ext
 ·simp [size_madeCells]
 ·intro i h1 h2
  simp [madeCells, Nat.mod_one]
theorem wpList_makeB (hgd : o.guard = none) (x y : Operand) (ho : o.op = .makeSlice 44 x y) (n : Nat) (hx : a.eval x = .i n) (hy : a.eval y = .i n) (hn : n ≤ 1000000)
  (h : ∀ W1, W1 = w.alloc (.cells ((List.replicate n false).map Value.bool).toArray 4) → wpList Tryz.prog ops Q rest (a.put o.dst (.slice (some ⟨w.heap.size, 0, none⟩) n n)) W1) : wpList Tryz.prog ops Q (o :: rest) a w :=
 wpList_plain hgd fun _ hK => by
  obtain ⟨i0, hi, hz0, hz1, hz2⟩ := info_parts infoBool
  have hr := run_make (P := Tryz.prog) w 44 4 i0 _ Tryz.underlying44 hi hz0 .i64 .i64 n n (by omega) (by omega) (by rw [hz2]; omega) (by omega)
  simp only [Int.toNat_natCast] at hr
  unfold Oper.wp execOp
  simp only [ho, hx, hy, Sem.run_bind, hr, Result.andThen_ok]
  exact hK _ _ (h _ (by rw [hz1, Nat.mul_one, show (Value.bool false).cells = #[Value.bool false] from rfl, madeB]))
theorem infoIntM (n : Nat) : madeCells #[Value.int .i64 0] n = ((List.replicate n (0 : Int)).map (Value.int .i64)).toArray := by
 apply Array.ext
 ·simp [size_madeCells]
 ·intro i h1 h2
  simp [madeCells, Nat.mod_one]
end
open Go.RowKit Go.Proofs.Pl Go.Proofs.YteabdeohhmbclaaGreatW.PrintLast
def Own2 (w : World) (base : Nat) : List Hd → List (List Nat) → Prop
 | [], [] => True
 | h :: hs, g :: gs => OwnK w base (Hd.val h) g ∧ Own2 w base hs gs
 | _, _ => False
theorem Own2.mono {w w' : World} {base : Nat} (hk : ∀ k cur, base ≤ k → Blk w k 3 cur → w'.heap[k]? = w.heap[k]?) : ∀ {hs : List Hd} {gs : List (List Nat)}, Own2 w base hs gs → Own2 w' base hs gs
 | [], [], _ => trivial
 | _ :: _, _ :: _, h => ⟨h.1.same fun k e => by obtain ⟨cur, hc⟩ := h.1.cells e; exact hk k cur (h.1.lt k e).1 hc, Own2.mono hk h.2⟩
 | [], _ :: _, h => h.elim
 | _ :: _, [], h => h.elim
theorem Own2.call {w w' : World} {base : Nat} {hs : List Hd} {gs : List (List Nat)} (h : Own2 w base hs gs) (hb : Below w.heap.size w w') : Own2 w' base hs gs := Own2.mono (fun k cur _ hc => (hc.call hb).trans hc.symm) h
theorem Own2.snoc {w : World} {base : Nat} {h : Hd} {g : List Nat} (h2 : OwnK w base (Hd.val h) g) : ∀ {hs : List Hd} {gs : List (List Nat)}, Own2 w base hs gs → Own2 w base (hs ++ [h]) (gs ++ [g])
 | [], [], _ => ⟨h2, trivial⟩
 | _ :: _, _ :: _, h1 => ⟨h1.1, Own2.snoc h2 h1.2⟩
 | [], _ :: _, h => h.elim
 | _ :: _, [], h => h.elim
theorem Own2.length {w : World} {base : Nat} : ∀ {hs : List Hd} {gs : List (List Nat)}, Own2 w base hs gs → hs.length = gs.length
 | [], [], _ => rfl
 | _ :: _, _ :: _, h => congrArg (· + 1) (Own2.length h.2)
 | [], _ :: _, h => h.elim
 | _ :: _, [], h => h.elim
theorem Blk.newS {W : World} {k : Nat} (t : TypeId) (cs : Array Value) (h : W.heap.size = k) : Blk (W.alloc (.cells cs t)) k t cs := h ▸ Blk.new W t cs
def GsR (w0 : World) (X : GrX) (k : Nat) (v : Value) (wr : World) : Prop :=
 ∃ vo one hs, GrI wr X vo ((grN (tL X.ls) X.n k).1, one) ∧ OwnH wr X.base v hs ∧ Own2 wr X.base hs (grN (tL X.ls) X.n k).2 ∧ Below X.base w0 wr ∧ ∀ g, v.ownBlock = some g → X.bw < g
def GsL (w0 : World) (X : GrX) (v i : Value) (wr : World) : Prop := ∃ k : Nat, k ≤ X.n ∧ i = .i k ∧ GsR w0 X k v wr
theorem gs_oha {wr W1 w2 w3 : World} {X : GrX} {v vo : Value} {one : List Nat} {hds : List Hd} {A3 : Option Addr} {n3 c3 : Nat} {sk : List Bool × List (List Nat)}
  (hbo : X.bo < X.bw) (I : GrI wr X vo (sk.1, one)) (OH : OwnH wr X.base v hds) (hv : ∀ g, v.ownBlock = some g → X.bw < g)
  (P1 : Put wr W1 X.bo) (N2 : Only (GrS X (.slice none 0 0)) W1 w2) (X2 : Nxt W1 (.slice none 0 0) (.slice A3 n3 c3)) (hg3 : w2.grownBy w3 (Value.slice A3 n3 c3).ownBlock) :
  OwnH (w3.alloc (.cells #[.slice A3 n3 c3] 26)) X.base v hds := by
 have hsz1 : W1.heap.size = wr.heap.size := P1.size
 have hsz2 : W1.heap.size ≤ w2.heap.size := N2.2.2.2.1
 have hown : ∀ g, (Value.slice A3 n3 c3).ownBlock = some g → W1.heap.size ≤ g := by
  rcases X2 with h | h
  ·intro g hg; rw [h] at hg; cases hg
  ·exact h
 refine OwnG.alloc (OH.same fun g hg => ?_) _
 obtain ⟨cur, hc⟩ := OH.cells hg
 have hne : g ≠ X.bo := by have := hv g hg; omega
 have e1 : W1.heap[g]? = wr.heap[g]? := P1.2.2.2.2 g hne
 have hlt := (OH.lt g hg).2
 have e2 : w2.heap[g]? = W1.heap[g]? := N2.2.2.2.2 g (by omega) (by
  rintro (e | e | e)
  ·exact blk_ne hc I.fM (by decide) e
  ·exact hne e
  ·cases e)
 exact (hg3.block g (by omega) (fun e => by have := hown g e.symm; omega)).trans (e2.trans e1)
theorem gs_step {w0 wr W1 w2 w3 w5 : World} {X : GrX} {v v5 vo : Value} {one : List Nat} {hds : List Hd} {A3 : Option Addr} {n3 c3 : Nat} {sk : List Bool × List (List Nat)} {r : List Bool × List Nat}
  (hbo : X.bo < X.bw) (I : GrI wr X vo (sk.1, one)) (OH : OwnH wr X.base v hds) (O2 : Own2 wr X.base hds sk.2) (HB : Below X.base w0 wr) (hv : ∀ g, v.ownBlock = some g → X.bw < g)
  (P1 : Put wr W1 X.bo) (I2 : GrI w2 X (.slice A3 n3 c3) r) (N2 : Only (GrS X (.slice none 0 0)) W1 w2) (X2 : Nxt W1 (.slice none 0 0) (.slice A3 n3 c3))
  (O3 : OwnK w3 X.base (.slice A3 n3 c3) (srt r.2)) (hg3 : w2.grownBy w3 (Value.slice A3 n3 c3).ownBlock)
  (h5 : ∀ OHa : OwnH (w3.alloc (.cells #[.slice A3 n3 c3] 26)) X.base v hds, OwnH w5 X.base v5 (hds ++ [(A3, n3, c3)]) ∧ (w3.alloc (.cells #[.slice A3 n3 c3] 26)).grownBy w5 v.ownBlock ∧ (v5.ownBlock = v.ownBlock ∨ v5.ownBlock = some (w3.alloc (.cells #[.slice A3 n3 c3] 26)).heap.size)) :
  GrI w5 X (.slice A3 n3 c3) (r.1, srt r.2) ∧ OwnH w5 X.base v5 (hds ++ [(A3, n3, c3)]) ∧ Own2 w5 X.base (hds ++ [(A3, n3, c3)]) (sk.2 ++ [srt r.2]) ∧ Below X.base w0 w5 ∧ ∀ g, v5.ownBlock = some g → X.bw < g := by
 have hbase : X.base ≤ wr.heap.size := I.fb.1
 have hsz1 : W1.heap.size = wr.heap.size := P1.size
 have hsz2 : W1.heap.size ≤ w2.heap.size := N2.2.2.2.1
 have hsz3 : w2.heap.size ≤ w3.heap.size := hg3.size
 have hown : ∀ g, (Value.slice A3 n3 c3).ownBlock = some g → W1.heap.size ≤ g := by
  rcases X2 with h | h
  ·intro g hg; rw [h] at hg; cases hg
  ·exact h
 -- blocks of the list of heads
 have OHa : OwnH (w3.alloc (.cells #[.slice A3 n3 c3] 26)) X.base v hds := by
  refine OwnG.alloc (OH.same fun g hg => ?_) _
  obtain ⟨cur, hc⟩ := OH.cells hg
  have hne : g ≠ X.bo := by have := hv g hg; omega
  have e1 : W1.heap[g]? = wr.heap[g]? := P1.2.2.2.2 g hne
  have hlt := (OH.lt g hg).2
  have e2 : w2.heap[g]? = W1.heap[g]? := N2.2.2.2.2 g (by omega) (by
   rintro (e | e | e)
   ·exact blk_ne hc I.fM (by decide) e
   ·exact hne e
   ·cases e)
  exact (hg3.block g (by omega) (fun e => by have := hown g e.symm; omega)).trans (e2.trans e1)
 obtain ⟨OH5, hg5, hat5⟩ := h5 OHa
 -- a block that is neither the heads' nor ints stays from w2 to w5
 have keep : ∀ g t cs, Blk w2 g t cs → t ≠ 3 → (∀ g', v.ownBlock = some g' → g ≠ g') → Blk w5 g t cs := fun g t cs hb ht hn => by
  have h1 : Blk w3 g t cs := hb.grown hg3 (fun e => by obtain ⟨cur, hc⟩ := I2.fO.cells e.symm; exact blk_ne hb hc ht rfl)
  exact (h1.alloc _).grown hg5 (fun e => hn g e.symm rfl)
 have hvn : ∀ g, g ≤ X.bw → ∀ g', v.ownBlock = some g' → g ≠ g' := fun g hg g' hg' => by have := hv g' hg'; omega
 have hvT : ∀ {g t cs}, Blk wr g t cs → t ≠ 26 → ∀ g', v.ownBlock = some g' → g ≠ g' := fun hb ht g' hg' => by
  obtain ⟨cur, hc⟩ := OH.cells hg'
  exact blk_ne hb hc ht
 have B1 : Below X.base w0 W1 := P1.bel HB I.fb.2.2
 have B2 : Below X.base w0 w2 := B1.trans (N2.below (by omega) (by
  rintro g (e | e | e)
  ·rw [e]; exact I.fb.2.1
  ·rw [e]; exact I.fb.2.2
  ·cases e))
 have B3 : Below X.base w0 w3 := B2.grown hg3 (by omega) (fun g hg => (I2.fO.lt g hg).1)
 have B5 : Below X.base w0 w5 := (B3.alloc (by omega) _).grown hg5 (by simp; omega) (fun g hg => (OHa.lt g hg).1)
 have O5 : OwnK w5 X.base (.slice A3 n3 c3) (srt r.2) := (OwnG.alloc O3 (.cells #[.slice A3 n3 c3] 26)).same fun g hg => hg5.block g (by have := (O3.lt g hg).2; simp; omega) (fun e => by
  obtain ⟨cur, hc⟩ := OHa.cells e.symm
  obtain ⟨cur', hc'⟩ := O3.cells hg
  exact blk_ne (hc'.alloc _) hc (by decide) rfl)
 refine ⟨⟨keep _ _ _ I2.fm (by decide) (hvT I.fm (by decide)), keep _ _ _ I2.fM (by decide) (hvT I.fM (by decide)), keep _ _ _ I2.fo (by decide) (hvn _ (by omega)), O5, keep _ _ _ I2.fl (by decide) (hvT I.fl (by decide)), keep _ _ _ I2.fw (by decide) (hvT I.fw (by decide)), ?_, Nat.le_trans I.fb.1 (by have := hg5.size; simp at this; omega), I.fb.2⟩, OH5, Own2.snoc O5 (Own2.mono (fun g cur hb hc => ?_) O2), B5, fun g hg => ?_⟩
 ·refine I2.fL.below ?_
  exact (((Below.refl X.base w2).grown hg3 I2.fb.1 (fun g hg => (I2.fO.lt g hg).1)).alloc (Nat.le_trans I2.fb.1 hsz3) _).grown hg5 (by have := I2.fb.1; simp; omega) (fun g hg => (OHa.lt g hg).1)
 ·have hlt := hc.lt
  have e1 : W1.heap[g]? = wr.heap[g]? := P1.2.2.2.2 g (blk_ne hc I.fo (by decide))
  have e2 : w2.heap[g]? = W1.heap[g]? := N2.2.2.2.2 g (by omega) (by
   rintro (e | e | e)
   ·exact blk_ne hc I.fM (by decide) e
   ·exact blk_ne hc I.fo (by decide) e
   ·cases e)
  have e3 : w3.heap[g]? = w2.heap[g]? := hg3.block g (by omega) (fun e => by have := hown g e.symm; omega)
  have e4 := Below.heap_alloc w3 (.cells #[.slice A3 n3 c3] 26) g (by omega)
  refine (hg5.block g (by simp; omega) (fun e => ?_)).trans (e4.trans (e3.trans (e2.trans e1)))
  obtain ⟨cur', hc'⟩ := OHa.cells e.symm
  have : Blk (w3.alloc (.cells #[.slice A3 n3 c3] 26)) g 3 cur := (e4.trans (e3.trans (e2.trans e1))).trans hc
  exact blk_ne this hc' (by decide) rfl
 ·rcases hat5 with h | h
  ·rw [h] at hg; exact hv g hg
  ·rw [h] at hg
   cases hg
   have := I2.fw.lt
   simp; omega
set_option maxRecDepth 100000 in
set_option maxHeartbeats 8000000 in
theorem groups_calls (A : Option Addr) (n c : Nat) (ls : List Cl) (w : World) (hs : SlC w w.heap.size A n ls) (hn : n ≤ 1000) :
  Calls Tryz.prog 5 #[.slice A n c] w fun e w' => ∃ v hds, e = .returned v ∧ OwnH w' w.heap.size v hds ∧ Own2 w' w.heap.size hds (groupsP (tL ls) n) ∧ Below w.heap.size w w' := by
 go_enter Tryz.func5, Tryz.ntmps5
 go_wp2_with (refine wpList_makeB rfl (.tmp 9) (.tmp 9) rfl n rfl rfl (by omega) ?_; intro W1 hW1; subst hW1)
 have hrep : ((List.replicate n false).map Value.bool).toArray = Array.replicate n (Value.bool false) := by simp
 have HB0 := bl_alloc (bl_alloc (bl_alloc (bl_alloc (bl_alloc (Below.refl w.heap.size w) (.cells #[.slice A n c] 22)) (.cells (Array.replicate n (Value.bool false)) 4)) (.cells #[.slice (some ⟨w.heap.size + 1, 0, none⟩) n n] 44)) (.cells #[.slice none 0 0] 26)) (.cells #[.func (.func 10) #[] #[.pointer (some ⟨w.heap.size + 1 + 1, 0, none⟩), .pointer (some ⟨w.heap.size + 1 + 1 + 1, 0, none⟩), .pointer (some ⟨w.heap.size, 0, none⟩), .pointer (some ⟨w.heap.size + 1 + 1 + 1 + 1, 0, none⟩)]] 45)
 obtain ⟨X, hX⟩ : ∃ X : GrX, X = ⟨w.heap.size, w.heap.size + 1 + 1, w.heap.size + 1 + 1 + 1, w.heap.size, w.heap.size + 1 + 1 + 1 + 1, w.heap.size + 1, A, n, c, ls⟩ := ⟨_, rfl⟩
 have I0 : GrI (((((w.alloc (.cells #[.slice A n c] 22)).alloc (.cells (Array.replicate n (Value.bool false)) 4)).alloc (.cells #[.slice (some ⟨w.heap.size + 1, 0, none⟩) n n] 44)).alloc (.cells #[.slice none 0 0] 26)).alloc (.cells #[.func (.func 10) #[] #[.pointer (some ⟨w.heap.size + 1 + 1, 0, none⟩), .pointer (some ⟨w.heap.size + 1 + 1 + 1, 0, none⟩), .pointer (some ⟨w.heap.size, 0, none⟩), .pointer (some ⟨w.heap.size + 1 + 1 + 1 + 1, 0, none⟩)]] 45)) X (.slice none 0 0) ((grN (tL ls) n 0).1, []) := by
  subst hX
  rw [grN_zero]
  refine ⟨((Blk.newS _ _ (by simp)).alloc _).alloc _, ?_, (Blk.newS _ _ (by simp)).alloc _, OwnG.nil _ _, ((((Blk.newS _ _ rfl).alloc _).alloc _).alloc _).alloc _, Blk.newS _ _ (by simp), hs.below HB0, HB0.size, by dsimp only; omega, by dsimp only; omega⟩
  dsimp only
  rw [hrep]
  exact (((Blk.newS _ _ (by simp)).alloc _).alloc _).alloc _
 have hR0 : GsL w X (.slice none 0 0) (.i 0) (((((w.alloc (.cells #[.slice A n c] 22)).alloc (.cells (Array.replicate n (Value.bool false)) 4)).alloc (.cells #[.slice (some ⟨w.heap.size + 1, 0, none⟩) n n] 44)).alloc (.cells #[.slice none 0 0] 26)).alloc (.cells #[.func (.func 10) #[] #[.pointer (some ⟨w.heap.size + 1 + 1, 0, none⟩), .pointer (some ⟨w.heap.size + 1 + 1 + 1, 0, none⟩), .pointer (some ⟨w.heap.size, 0, none⟩), .pointer (some ⟨w.heap.size + 1 + 1 + 1 + 1, 0, none⟩)]] 45)) := by
  refine ⟨0, Nat.zero_le _, rfl, .slice none 0 0, [], [], ?_, OwnG.nil _ _, ?_, ?_, fun g hg => by cases hg⟩
  ·subst hX; exact I0
  ·subst hX; trivial
  ·subst hX; exact HB0
 clear I0 HB0 hrep
 replace hX := Lib.hid hX
 replace hR0 := Lib.hid hR0
 go_loopw [4, 7, 14] (fun v _ i wr => GsL w X v i wr) (fun _ _ i _ => n - (intOf i).toNat)
 case atStart => exact hR0.out
 case round =>
  obtain ⟨k, hk, rfl, vo, one, hds, I, OH, OW, HB, hv⟩ := hrel
  have hXn : X.n = n := by rw [hX.out]
  have hXl : X.ls = ls := by rw [hX.out]
  have hXb : X.base = w.heap.size := by rw [hX.out]
  rw [hXn] at hk
  have hgi := grN_inv (tL X.ls) X.n k (by omega)
  have hsucc := grN_succ (tL X.ls) X.n k
  replace HB := Lib.hid HB
  replace hv := Lib.hid hv
  by_cases hlt : k < n
  rotate_left
  ·have hkn : k = n := by omega
   replace hkn := Lib.hid hkn
   replace I := Lib.hid I
   replace OH := Lib.hid OH
   replace OW := Lib.hid OW
   replace hXl := Lib.hid hXl
   replace hXb := Lib.hid hXb
   replace hXn := Lib.hid hXn
   clear hgi hsucc
   obtain ⟨A4, n4, c4, rfl⟩ : ∃ A n c, u4 = .slice A n c := (by obtain ⟨A, c, e⟩ := OH.out.form; exact ⟨A, _, c, e⟩)
   go_wp2_with fail
   go_ret
   have h1 := OH.out
   have h2 := OW.out
   have h3 := HB.out
   rw [hXb.out] at h1 h2 h3
   rw [hkn.out, hXl.out, hXn.out] at h2
   exact ⟨_, hds, rfl, h1, h2, h3⟩
  generalize grN (tL X.ls) X.n k = sk at I OW hgi hsucc
  have hl : sk.1.length = n := hgi.len.trans hXn
  have c3 : wr.cell? ⟨w.heap.size + 1 + 1, 0, none⟩ = some (.slice (some ⟨w.heap.size + 1, 0, none⟩) n n) := by have h := I.fm.cell 0; rw [hX.out] at h; exact h
  have cM : wr.cell? ⟨w.heap.size + 1, k, none⟩ = some (.b (sk.1.getD k false)) := by have h := (I.fM.cell k).trans (map_get (l := sk.1) (by omega)); rw [hX.out] at h; exact h
  have hnm : sk.1.getD k false = false → ¬ met sk.1 k := fun h => by unfold met; rw [h]; simp
  have hsk : (if sk.1.getD k false = true then sk else ((dfs (tL X.ls) X.n X.n k (sk.1, [])).1, sk.2 ++ [srt (dfs (tL X.ls) X.n X.n k (sk.1, [])).2])) = grN (tL X.ls) X.n (k + 1) := hsucc.symm
  generalize hmk : sk.1.getD k false = mk at cM hnm hsk
  replace hmk := Lib.hid hmk
  clear hsucc
  cases mk
  rotate_left
  ·rw [if_pos rfl] at hsk
   replace hsk := Lib.hid hsk
   replace I := Lib.hid I
   replace OH := Lib.hid OH
   replace OW := Lib.hid OW
   replace hXn := Lib.hid hXn
   replace hXl := Lib.hid hXl
   replace hXb := Lib.hid hXb
   clear hnm hgi
   go_wp2_with fail
   go_roundw
   case rel => exact ⟨k + 1, by rw [hXn.out]; exact hlt, by go_num, vo, one, hds, by rw [← hsk.out]; exact I.out, OH.out, by rw [← hsk.out]; exact OW.out, HB.out, hv.out⟩
   case measure => simp [intOf]; omega
  rw [if_neg (by decide)] at hsk
  obtain ⟨W1, hW1, BO1, P1⟩ := put1 I.fo 0 (.slice none 0 0)
  have hsetn : (#[vo] : Array Value).setIfInBounds 0 (.slice none 0 0) = #[.slice none 0 0] := rfl
  rw [hsetn] at BO1
  have hdl : hds.length ≤ 1000 := by have h1 := OW.length; have h2 := hgi.many; omega
  have hbo : X.bo < X.bw := by rw [hX.out]; show w.heap.size + 1 + 1 + 1 < w.heap.size + 1 + 1 + 1 + 1; omega
  have I1 : GrI W1 X (.slice none 0 0) (sk.1, []) := ⟨P1.blk I.fm (blk_ne I.fm I.fo (by decide)), P1.blk I.fM (blk_ne I.fM I.fo (by decide)), BO1, OwnG.nil _ _, P1.blk I.fl (blk_ne I.fl I.fo (by decide)), P1.blk I.fw (blk_ne I.fw I.fo (by decide)), I.fL.below (P1.bel (Below.refl X.base wr) I.fb.2.2), by rw [P1.size]; exact I.fb.1, I.fb.2⟩
  have hcn := cntF_le sk.1
  have hnm' := hnm rfl
  have HW := walk_calls X (by omega) X.n k (sk.1, []) (.slice none 0 0) W1 I1 hgi.len (by omega) hnm' (by rw [← hgi.len]; exact hcn) (by have := hgi.len; simp; omega)
  have HPo := dfs_both (tL X.ls) X.n X.n k (sk.1, []) hgi.len (by omega) hnm' (by rw [← hgi.len]; exact hcn)
  generalize dfs (tL X.ls) X.n X.n k (sk.1, []) = r at HW HPo hsk
  have hrne : r.2 ≠ [] := by
   obtain ⟨l, e, _, hm, _⟩ := HPo.new
   have : k ∈ l := (hm k).2 ⟨HPo.here, hnm'⟩
   intro h
   rw [e] at h
   simp at h
   rw [h] at this
   cases this
  have hrl : r.2.length ≤ 1000 := by have := HPo.sum; have := hgi.len; simp at *; omega
  clear HPo
  have hbase := I.fb.1
  rw [show X.bm = w.heap.size + 1 + 1 from by rw [hX.out], show X.bo = w.heap.size + 1 + 1 + 1 from by rw [hX.out], show X.bl = w.heap.size from by rw [hX.out], show X.bw = w.heap.size + 1 + 1 + 1 + 1 from by rw [hX.out]] at HW
  have o0 : wr.cell? ⟨w.heap.size + 1 + 1 + 1, 0, none⟩ = some vo := by have h := I.fo.cell 0; rw [hX.out] at h; exact h
  have f0 : wr.frozen? ⟨w.heap.size + 1 + 1 + 1, 0, none⟩ = false := by have h := I.fo.frozen 0; rw [hX.out] at h; exact h
  have hW1' : wr.setCell ⟨w.heap.size + 1 + 1 + 1, 0, none⟩ (.slice none 0 0) = W1 := by rw [← hW1, hX.out]
  have w1 : W1.cell? ⟨w.heap.size + 1 + 1 + 1 + 1, 0, none⟩ = some (.func (.func 10) #[] #[.pointer (some ⟨w.heap.size + 1 + 1, 0, none⟩), .pointer (some ⟨w.heap.size + 1 + 1 + 1, 0, none⟩), .pointer (some ⟨w.heap.size, 0, none⟩), .pointer (some ⟨w.heap.size + 1 + 1 + 1 + 1, 0, none⟩)]) := by have h := I1.fw.cell 0; rw [hX.out] at h; exact h
  obtain ⟨Ao, no, co, rfl⟩ : ∃ A n c, vo = .slice A n c := (by obtain ⟨A, c, e⟩ := I.fO.form; exact ⟨A, _, c, e⟩)
  replace HW := Lib.hid HW
  replace hsk := Lib.hid hsk
  replace I := Lib.hid I
  replace OH := Lib.hid OH
  replace OW := Lib.hid OW
  replace P1 := Lib.hid P1
  replace hXn := Lib.hid hXn
  replace hXl := Lib.hid hXl
  replace hXb := Lib.hid hXb
  replace hbo := Lib.hid hbo
  replace hrne := Lib.hid hrne
  clear hnm hnm' hgi I1 BO1 hW1 hsetn hcn hl
  go_wp2_with (first
   | (go_at_call 10; (with_reducible refine HW.out.mono ?_); rintro e w2 ⟨⟨u_, rfl⟩, vo2, I2, N2, X2⟩; obtain ⟨A3, n3, c3', rfl⟩ : ∃ A n c, vo2 = .slice A n c := (by obtain ⟨A, c, e⟩ := I2.fO.form; exact ⟨A, _, c, e⟩); have o2 : w2.cell? ⟨w.heap.size + 1 + 1 + 1, 0, none⟩ = some (.slice A3 n3 c3') := (by have h := I2.fo.cell 0; rw [hX.out] at h; exact h); have HSo := Lib.hid (sortK_calls X.base (.slice A3 n3 c3') r.2 w2 I2.fO hrne.out (by omega)); replace I2 := Lib.hid I2; replace N2 := Lib.hid N2; replace X2 := Lib.hid X2; clear o0 f0 w1 c3 cM)
   | (go_at_call 12; (with_reducible refine HSo.out.mono ?_); rintro e w3 ⟨rfl, OK3, hg3⟩; have o3 : w3.cell? ⟨w.heap.size + 1 + 1 + 1, 0, none⟩ = some (.slice A3 n3 c3') := (by have h := (I2.out.fo.grown hg3 (fun e => by obtain ⟨cur, hc⟩ := I2.out.fO.cells e.symm; exact blk_ne I2.out.fo hc (by decide) rfl)).cell 0; rw [hX.out] at h; exact h); have OHa := Lib.hid (gs_oha hbo.out I.out OH.out hv.out P1.out N2.out X2.out hg3); have HS1 : SlG hdC 1 (w3.alloc (.cells #[.slice A3 n3 c3'] 26)) (w3.alloc (.cells #[.slice A3 n3 c3'] 26)).heap.size (some ⟨w3.heap.size, 0, none⟩) 1 [(A3, n3, c3')] := SlG.lit hdC_length (by decide) [(A3, n3, c3')] rfl (Blk.new w3 26 #[.slice A3 n3 c3']) (Blk.new w3 26 #[.slice A3 n3 c3']).lt; have hb3 : X.base ≤ (w3.alloc (.cells #[.slice A3 n3 c3'] 26)).heap.size := (by have h1 := P1.out.size; have h2 := N2.out.2.2.2.1; have h3 := hg3.size; simp; omega); replace OK3 := Lib.hid OK3; replace hg3 := Lib.hid hg3)
   | (refine wpList_appH rfl (.tmp 27) (.tmp 29) rfl X.base u4 hds rfl OHa.out _ ⟨w3.heap.size, 0, none⟩ 1 1 [(A3, n3, c3')] rfl HS1 (by omega) hb3 ?_; intro v5 w5 OH5 hg5 hat5; replace OH5 := Lib.hid OH5; replace hg5 := Lib.hid hg5; replace hat5 := Lib.hid hat5))
  have hst := gs_step hbo.out I.out OH.out OW.out HB.out hv.out P1.out I2.out N2.out X2.out OK3.out hg3.out (fun _ => ⟨OH5.out, hg5.out, hat5.out⟩)
  go_roundw
  case rel => exact ⟨k + 1, by rw [hXn.out]; exact hlt, by go_num, _, _, _, by rw [← hsk.out]; exact hst.1, hst.2.1, by rw [← hsk.out]; exact hst.2.2.1, hst.2.2.2.1, hst.2.2.2.2⟩
  case measure => simp [intOf]; omega
end Go.Proofs.YteabdeohhmbclaaGreat.Wk
