/- Slices of structs, generically: a row of k cells for each element, by the function f; slices that the call made. -/
import Derived.Test.YteabdeohhmbclaaGreatMvBy
import Derived.Test.YteabdeohhmbclaaGreatOvDy
import Derived.Test.YteabdeohhmbclaaGreatArYy
import Derived.Test.YteabdeohhmbclaaGreatPureAy
namespace Go.Proofs.YteabdeohhmbclaaGreat.Wk
open Go.RowKit Go.Proofs.Pl Go.Proofs.YteabdeohhmbclaaGreatW.PrintLast
set_option linter.unusedSimpArgs false
set_option linter.unusedVariables false

section
variable {α : Type} {f : α → List Value} {k : Nat}
def SlG (f : α → List Value) (k : Nat) (w : World) (B : Nat) (A : Option Addr) (n : Nat) (xs : List α) : Prop :=
 xs.length = n ∧ (0 < n → ∃ b off, A = some ⟨b, off, none⟩ ∧ b < B ∧ ∀ (i : Nat) (x : α), xs[i]? = some x → ∀ (j : Nat) (u : Value), (f x)[j]? = some u → w.cell? ⟨b, off + i * k + j, none⟩ = some u)
theorem SlG.keep {w w' : World} {B n : Nat} {A : Option Addr} {xs : List α} (h : SlG f k w B A n xs) (hk : ∀ b o, b < B → w'.cell? ⟨b, o, none⟩ = w.cell? ⟨b, o, none⟩) : SlG f k w' B A n xs :=
 ⟨h.1, fun hn => by
  obtain ⟨b, off, e, hb, hc⟩ := h.2 hn
  exact ⟨b, off, e, hb, fun i x hx j u hu => by rw [hk b _ hb]; exact hc i x hx j u hu⟩⟩
theorem SlG.below {w w' : World} {B n : Nat} {A : Option Addr} {xs : List α} (h : SlG f k w B A n xs) (hb : Below B w w') : SlG f k w' B A n xs := h.keep fun b o hlt => hb.cell (p := ⟨b, o, none⟩) hlt
theorem SlG.more {w : World} {B B' n : Nat} {A : Option Addr} {xs : List α} (h : SlG f k w B A n xs) (hB : B ≤ B') : SlG f k w B' A n xs := ⟨h.1, fun hn => by obtain ⟨b, off, e, hb, hc⟩ := h.2 hn; exact ⟨b, off, e, by omega, hc⟩⟩
theorem SlG.on {w w' : World} {n : Nat} {A : Option Addr} {xs : List α} (h : SlG f k w w.heap.size A n xs) (hb : Below w.heap.size w w') : SlG f k w' w'.heap.size A n xs := (h.below hb).more hb.size
theorem SlG.at_ {w : World} {B n : Nat} {A : Option Addr} {xs : List α} (h : SlG f k w B A n xs) {i : Nat} (hi : i < n) : ∃ b off x, A = some ⟨b, off, none⟩ ∧ b < B ∧ xs[i]? = some x ∧ ∀ (j : Nat) (u : Value), (f x)[j]? = some u → w.cell? ⟨b, off + i * k + j, none⟩ = some u := by
 obtain ⟨b, off, e, hb, hc⟩ := h.2 (by omega)
 have hl : i < xs.length := by have := h.1; omega
 exact ⟨b, off, xs[i], e, hb, List.getElem?_eq_getElem hl, hc i _ (List.getElem?_eq_getElem hl)⟩
theorem flatG_length (hf : ∀ x, (f x).length = k) (xs : List α) : (xs.flatMap f).length = xs.length * k := by
 induction xs with
 | nil => simp
 | cons a l ih => rw [List.flatMap_cons, List.length_append, hf, ih, List.length_cons, Nat.add_mul]; omega
theorem flatG_get (hf : ∀ x, (f x).length = k) (hk : 0 < k) (xs : List α) (j : Nat) : (xs.flatMap f)[j]? = (xs[j / k]?).bind fun x => (f x)[j % k]? := by
 induction xs generalizing j with
 | nil => simp
 | cons a l ih =>
  rw [List.flatMap_cons]
  rcases Nat.lt_or_ge j k with h | h
  ·rw [List.getElem?_append_left (by rw [hf]; exact h), Nat.div_eq_of_lt h, Nat.mod_eq_of_lt h]
   rfl
  ·rw [List.getElem?_append_right (by rw [hf]; exact h), hf, ih (j - k)]
   have e1 : j / k = (j - k) / k + 1 := Nat.div_eq_sub_div hk h
   have e2 : j % k = (j - k) % k := Nat.mod_eq_sub_mod h
   rw [e1, e2]
   rfl
theorem flatG_one (h1 : ∀ x, ∀ u ∈ f x, u.oneCell' = true) (xs : List α) : ∀ u ∈ xs.flatMap f, u.oneCell' = true := fun u hu => by
 obtain ⟨x, _, hx⟩ := List.mem_flatMap.1 hu
 exact h1 x u hx
theorem SlG.flat (hf : ∀ x, (f x).length = k) (hk : 0 < k) {w : World} {B n : Nat} {A : Addr} {xs : List α} (h : SlG f k w B (some A) n xs) : ∀ j u, (xs.flatMap f)[j]? = some u → w.cell? (A.add j) = some u := fun j u hu => by
 rw [flatG_get hf hk] at hu
 cases hx : xs[j / k]? with
 | none => rw [hx] at hu; cases hu
 | some x =>
  rw [hx] at hu
  have hi : j / k < n := by rw [← h.1]; exact (List.getElem?_eq_some_iff.1 hx).1
  obtain ⟨b, off, e, hb, hc⟩ := h.2 (Nat.lt_of_le_of_lt (Nat.zero_le _) hi)
  cases e
  rw [addAt']
  have := hc _ x hx (j % k) u hu
  have ej : off + j = off + j / k * k + j % k := by have := Nat.div_add_mod j k; rw [Nat.mul_comm] at this; omega
  rw [ej]
  exact this
theorem SlG.ofFlat (hf : ∀ x, (f x).length = k) (hk : 0 < k) {w : World} {B n g off : Nat} {xs : List α} (hl : xs.length = n) (hg : g < B) (h : ∀ j u, (xs.flatMap f)[j]? = some u → w.cell? ⟨g, off + j, none⟩ = some u) : SlG f k w B (some ⟨g, off, none⟩) n xs := by
 refine ⟨hl, fun _ => ⟨g, off, rfl, hg, fun i x hx m u hu => ?_⟩⟩
 have hm : m < k := by rw [← hf x]; exact (List.getElem?_eq_some_iff.1 hu).1
 have e1 : (i * k + m) / k = i := by rw [Nat.mul_comm, Nat.mul_add_div hk, Nat.div_eq_of_lt hm, Nat.add_zero]
 have e2 : (i * k + m) % k = m := by rw [Nat.mul_comm, Nat.mul_add_mod, Nat.mod_eq_of_lt hm]
 have := h (i * k + m) u (by rw [flatG_get hf hk, e1, e2, hx]; exact hu)
 rwa [← Nat.add_assoc] at this
def OwnG (f : α → List Value) (k : Nat) (T : TypeId) (w : World) (base : Nat) (v : Value) (xs : List α) : Prop := w.ownsRow base T k v xs.length (xs.flatMap f)
variable {T : TypeId} {w w' : World} {base : Nat} {v : Value} {xs : List α}
theorem OwnG.sl (hf : ∀ x, (f x).length = k) (hk : 0 < k) (h : OwnG f k T w base v xs) : ∃ A c, v = .slice A xs.length c ∧ SlG f k w w.heap.size A xs.length xs := by
 rcases h.2 with ⟨rfl, hn⟩ | ⟨g, cap, cur, rfl, hb, hg, hnc, hcm, hcs, htake⟩
 ·exact ⟨none, 0, by rw [hn], rfl, fun h0 => absurd hn (by omega)⟩
 ·refine ⟨_, cap, rfl, SlG.ofFlat hf hk rfl ?_ fun j u hu => ?_⟩
  ·rcases Nat.lt_or_ge g w.heap.size with hlt | hge
   ·exact hlt
   ·rw [Array.getElem?_eq_none hge] at hg; cases hg
  ·have hj : j < xs.length * k := by rw [← flatG_length hf]; exact (List.getElem?_eq_some_iff.1 hu).1
   rw [Nat.zero_add]
   exact (World.ownsRow.cellAt h j hj).trans hu
theorem OwnG.nil (w : World) (base : Nat) : OwnG f k T w base (.slice none 0 0) [] := World.ownsRow_nil _ _ _ _
theorem OwnG.lt (h : OwnG f k T w base v xs) : ∀ g, v.ownBlock = some g → base ≤ g ∧ g < w.heap.size := World.ownsRow.lt h
theorem OwnG.same (h : OwnG f k T w base v xs) (hk : ∀ g, v.ownBlock = some g → w'.heap[g]? = w.heap[g]?) : OwnG f k T w' base v xs := by
 refine ⟨h.1, ?_⟩
 rcases h.2 with hn | ⟨g, cap, cur, rfl, hb, hgg, rest⟩
 ·exact .inl hn
 ·exact .inr ⟨g, cap, cur, rfl, hb, (hk g rfl).trans hgg, rest⟩
theorem OwnG.call (h : OwnG f k T w base v xs) (hb : Below w.heap.size w w') : OwnG f k T w' base v xs := h.same fun g hg => hb.block g (h.lt g hg).2
theorem OwnG.alloc (h : OwnG f k T w base v xs) (o : Obj) : OwnG f k T (w.alloc o) base v xs := World.ownsRow.alloc h o
theorem OwnG.drew (h : OwnG f k T w base v xs) : OwnG f k T w.drew base v xs := World.ownsRow.drew h
theorem OwnG.cells (h : OwnG f k T w base v xs) {g : Nat} (hg : v.ownBlock = some g) : ∃ cur, Blk w g T cur := by
 rcases h.2 with ⟨rfl, hn⟩ | ⟨g', cap, cur, rfl, hb, hgg, rest⟩
 ·cases hg
 ·cases hg
  exact ⟨cur, hgg⟩
theorem OwnG.form (h : OwnG f k T w base v xs) : ∃ A c, v = .slice A xs.length c := by
 rcases h.2 with ⟨rfl, hn⟩ | ⟨g', cap, cur, rfl, hb, hgg, rest⟩
 ·exact ⟨none, 0, by rw [hn]⟩
 ·exact ⟨_, cap, rfl⟩
theorem OwnG.pop {x : α} {A : Option Addr} {c : Nat} (hf : ∀ x, (f x).length = k) (h : OwnG f k T w base (.slice A (xs.length + 1) c) (xs ++ [x])) : OwnG f k T w base (.slice A xs.length c) xs := by
 refine ⟨flatG_length hf xs, ?_⟩
 rcases h.2 with ⟨he, hn⟩ | ⟨g, cap, cur, he, hb, hg, hnc, hcm, hcs, htake⟩
 ·simp at hn
 ·rw [List.length_append, List.length_singleton] at he hnc htake
  injection he with he1 he2 he3
  subst he1 he3
  refine .inr ⟨g, _, cur, rfl, hb, hg, by omega, hcm, hcs, ?_⟩
  have e : ((xs ++ [x]).flatMap f).take (xs.length * k) = xs.flatMap f := by
   rw [List.flatMap_append, List.take_append_of_le_length (by rw [flatG_length hf]; exact Nat.le_refl _), List.take_of_length_le (by rw [flatG_length hf]; exact Nat.le_refl _)]
  have := congrArg (List.take (xs.length * k)) htake
  rw [e, List.take_take, Nat.min_eq_left (by rw [Nat.add_mul]; omega)] at this
  exact this
end
end Go.Proofs.YteabdeohhmbclaaGreat.Wk
namespace Go.Proofs.YteabdeohhmbclaaGreat.Wk
open Go.RowKit Go.Proofs.Pl Go.Proofs.YteabdeohhmbclaaGreatW.PrintLast
set_option linter.unusedSimpArgs false
set_option linter.unusedVariables false

set_option maxRecDepth 100000 in
set_option maxHeartbeats 4000000 in
theorem plast_calls (s0 : Int) (s1 : Bool) (s2 s3 : Int) (i0 : Bool) (i1 : Int) (i2 : Bool) (i3 i4 i5 : Int) (i6 : Bool) (i7 i8 : Int) (A : Option Addr) (n c : Nat) (xs : List Slc) (w : World) (hs : SlT w w.heap.size A n xs) (hn : n ≤ 1000) :
  Calls Tryz.prog 15 #[.agg #[.i s0, .b s1, .u s2, .i s3, .b i0, .i i1, .b i2, .u i3, .i i4, .i i5, .b i6, .u i7, .i i8, .slice A n c]] w fun e w' => e = .returned (.agg #[.i (endT ⟨s0, s1, s2, s3⟩ xs).k, .b (endT ⟨s0, s1, s2, s3⟩ xs).n, .u (endT ⟨s0, s1, s2, s3⟩ xs).m, .i (endT ⟨s0, s1, s2, s3⟩ xs).e]) ∧ Below w.heap.size w w' := by
 have BR : Blk _ (w.heap.size + 1) 32 #[.i 0, .b false, .u 0, .i 0] := Blk.new1 w (.cells #[.i s0, .b s1, .u s2, .i s3, .b i0, .i i1, .b i2, .u i3, .i i4, .i i5, .b i6, .u i7, .i i8, .slice A n c] 37) _ _
 have HBd := (bl_alloc (bl_alloc (Below.refl w.heap.size w) (.cells #[.i s0, .b s1, .u s2, .i s3, .b i0, .i i1, .b i2, .u i3, .i i4, .i i5, .b i6, .u i7, .i i8, .slice A n c] 37)) (.cells #[.i 0, .b false, .u 0, .i 0] 32))
 rcases Nat.eq_zero_or_pos n with h0 | h0
 ·subst h0
  have he : endT ⟨s0, s1, s2, s3⟩ xs = ⟨s0, s1, s2, s3⟩ := by rw [List.eq_nil_of_length_eq_zero hs.1]; rfl
  rw [he]
  clear hs he
  dsimp only
  go_enter Tryz.func15, Tryz.ntmps15
  go_wp2_with (refine wpList_stG rfl 32 (.tmp 2) (.tmp 17) rfl (w.heap.size + 1) _ #[.i s0, .b s1, .u s2, .i s3] BR rfl rfl (by kernel_rfl) rfl (by simp [Value.oneCell']) ?_; intro W9 B9 P9; have HB9 := P9.bel HBd (by omega))
  exact bodyPost_ret (results_cell_row rfl _ _ (w.heap.size + 1) 32 _ (0, 0) _ rfl B9 Tryz.underlying32 rfl (by kernel_rfl)) rfl ⟨rfl, HB9⟩
 ·obtain ⟨m, rfl⟩ : ∃ m, n = m + 1 := ⟨n - 1, by omega⟩
  obtain ⟨b, off, x, rfl, hbB, hx, hc⟩ := hs.at_ (k := m) (by omega)
  rw [endT_some hs.1 hx]
  have e0 : w.cell? ⟨b, off + m * 22, none⟩ = some (.i x.e.k) := hc 0 _ rfl
  have e1 : w.cell? ⟨b, off + m * 22 + 1, none⟩ = some (.b x.e.n) := hc 1 _ rfl
  have e2 : w.cell? ⟨b, off + m * 22 + 2, none⟩ = some (.u x.e.m) := hc 2 _ rfl
  have e3 : w.cell? ⟨b, off + m * 22 + 3, none⟩ = some (.i x.e.e) := hc 3 _ rfl
  have em : (((m + 1 : Nat) : Int) - 1) = m := by omega
  obtain ⟨⟨x0, x1, x2, x3⟩, xa, xo⟩ := x
  dsimp only at e0 e1 e2 e3 ⊢
  clear hs hc hx
  have hmp : 0 < m + 1 := by omega
  go_enter Tryz.func15, Tryz.ntmps15
  go_wp2_with (refine wpList_stG rfl 32 (.tmp 2) (.tmp 15) rfl (w.heap.size + 1) _ #[.i x0, .b x1, .u x2, .i x3] BR rfl rfl (by kernel_rfl) rfl (by simp [Value.oneCell']) ?_; intro W9 B9 P9; have HB9 := P9.bel HBd (by omega))
  exact bodyPost_ret (results_cell_row rfl _ _ (w.heap.size + 1) 32 _ (0, 0) _ rfl B9 Tryz.underlying32 rfl (by kernel_rfl)) rfl ⟨rfl, HB9⟩
set_option maxRecDepth 100000 in
set_option maxHeartbeats 8000000 in
theorem splits_calls (x0 : Bool) (x1 : Int) (x2 : Bool) (x3 x4 x5 : Int) (x6 : Bool) (x7 x8 : Int) (wx : WfIv ⟨x0, ⟨x1, x2, x3, x4⟩, ⟨x5, x6, x7, x8⟩⟩) (w : World) :
  Calls Tryz.prog 61 #[.agg #[.b x0, .i x1, .b x2, .u x3, .i x4, .i x5, .b x6, .u x7, .i x8]] w fun e w' => e = .returned (.b (splitsI ⟨x0, ⟨x1, x2, x3, x4⟩, ⟨x5, x6, x7, x8⟩⟩)) ∧ Below w.heap.size w w' := by
 unfold splitsI
 have HM := (fun W => midI_calls x0 x1 x2 x3 x4 x5 x6 x7 x8 wx W)
 generalize midI ⟨x0, ⟨x1, x2, x3, x4⟩, ⟨x5, x6, x7, x8⟩⟩ = r at HM ⊢
 obtain ⟨r0, r1, r2, r3⟩ := r
 have HC1 := (fun W => cmpN_calls x1 x2 x3 x4 r0 r1 r2 r3 W)
 have HC2 := (fun W => cmpN_calls r0 r1 r2 r3 x5 x6 x7 x8 W)
 dsimp only at HM ⊢
 generalize cmpN ⟨x1, x2, x3, x4⟩ ⟨r0, r1, r2, r3⟩ = c1 at HC1 ⊢
 generalize cmpN ⟨r0, r1, r2, r3⟩ ⟨x5, x6, x7, x8⟩ = c2 at HC2 ⊢
 replace HM := Lib.hid HM
 replace HC1 := Lib.hid HC1
 replace HC2 := Lib.hid HC2
 have BX : Blk _ w.heap.size 34 #[.b x0, .i x1, .b x2, .u x3, .i x4, .i x5, .b x6, .u x7, .i x8] := Blk.new w _ _
 have HBd := bl_alloc (Below.refl w.heap.size w) (.cells #[.b x0, .i x1, .b x2, .u x3, .i x4, .i x5, .b x6, .u x7, .i x8] 34)
 by_cases h1 : c1 < 0
 ·go_enter Tryz.func61, Tryz.ntmps61
  go_wp2_with (first
   | (go_at_call 78; (with_reducible refine (HM.out _).mono ?_); rintro e w1 ⟨rfl, hb⟩; have X1 := (BX.call hb).alloc (.cells #[.i r0, .b r1, .u r2, .i r3] 32); have R1 := Blk.new w1 32 #[.i r0, .b r1, .u r2, .i r3]; have B1 := bl_alloc (bl_trans HBd hb) (.cells #[.i r0, .b r1, .u r2, .i r3] 32); have gx := (BX.call hb).lt; obtain ⟨⟨y0, y1, y2, y3, y4, y5, y6, y7, y8⟩, _⟩ := (BX.call hb).c9)
   | (go_at_call 28; first
    | ((with_reducible refine (HC1.out _).mono ?_); rintro e w2 ⟨rfl, hb2⟩; have R2 := R1.call hb2; have X2 := X1.call hb2; have B2 := bl_trans B1 hb2; obtain ⟨⟨q0, q1, q2, q3⟩, _⟩ := R2.c4; obtain ⟨⟨y0, y1, y2, y3, y4, y5, y6, y7, y8⟩, _⟩ := X2.c9)
    | ((with_reducible refine (HC2.out _).mono ?_); rintro e w3 ⟨rfl, hb3⟩; have B3 := bl_trans B2 hb3)))
  all_goals go_ret
  all_goals exact ⟨by first | rfl | simp [h1], B3⟩
 ·go_enter Tryz.func61, Tryz.ntmps61
  go_wp2_with (first
   | (go_at_call 78; (with_reducible refine (HM.out _).mono ?_); rintro e w1 ⟨rfl, hb⟩; have X1 := (BX.call hb).alloc (.cells #[.i r0, .b r1, .u r2, .i r3] 32); have R1 := Blk.new w1 32 #[.i r0, .b r1, .u r2, .i r3]; have B1 := bl_alloc (bl_trans HBd hb) (.cells #[.i r0, .b r1, .u r2, .i r3] 32); have gx := (BX.call hb).lt; obtain ⟨⟨y0, y1, y2, y3, y4, y5, y6, y7, y8⟩, _⟩ := (BX.call hb).c9)
   | (go_at_call 28; ((with_reducible refine (HC1.out _).mono ?_); rintro e w2 ⟨rfl, hb2⟩; have R2 := R1.call hb2; have X2 := X1.call hb2; have B2 := bl_trans B1 hb2)))
  all_goals go_ret
  all_goals exact ⟨by have h2 := decide_eq_false (show ¬ c1 < 0 by omega); first | rfl | (rw [h2]; rfl) | simp [h2], B2⟩
end Go.Proofs.YteabdeohhmbclaaGreat.Wk
namespace Go.Proofs.YteabdeohhmbclaaGreat.Wk
open Go.RowKit Go.Proofs.Pl Go.Proofs.YteabdeohhmbclaaGreatW.PrintLast
set_option linter.unusedSimpArgs false
set_option linter.unusedVariables false

def prCells (p : Pr) : List Value := ivCells p.a ++ ivCells p.b
def clCells (c : Cl) : List Value := prCells c.p ++ [.i c.kd]
theorem prCells_length (p : Pr) : (prCells p).length = 18 := rfl
theorem clCells_length (p : Cl) : (clCells p).length = 19 := rfl
theorem ivCells_one (x : Iv) : ∀ u ∈ ivCells x, u.oneCell' = true := fun u hu => by
 simp only [ivCells, List.mem_cons, List.not_mem_nil, or_false] at hu
 rcases hu with rfl | rfl | rfl | rfl | rfl | rfl | rfl | rfl | rfl <;> rfl
theorem prCells_one (p : Pr) : ∀ u ∈ prCells p, u.oneCell' = true := fun u hu => by
 rcases List.mem_append.1 hu with h | h
 ·exact ivCells_one _ u h
 ·exact ivCells_one _ u h
theorem clCells_one (c : Cl) : ∀ u ∈ clCells c, u.oneCell' = true := fun u hu => by
 rcases List.mem_append.1 hu with h | h
 ·exact prCells_one _ u h
 ·rw [List.mem_singleton.1 h]; rfl
abbrev OwnP (w : World) (base : Nat) (v : Value) (xs : List Pr) : Prop := OwnG prCells 18 41 w base v xs
abbrev OwnC (w : World) (base : Nat) (v : Value) (xs : List Cl) : Prop := OwnG clCells 19 43 w base v xs
abbrev SlP (w : World) (B : Nat) (A : Option Addr) (n : Nat) (xs : List Pr) : Prop := SlG prCells 18 w B A n xs
abbrev SlC (w : World) (B : Nat) (A : Option Addr) (n : Nat) (xs : List Cl) : Prop := SlG clCells 19 w B A n xs
theorem infoPr : (Tryz.prog.info? 41).map (fun i => (i.zero, i.size, i.bytes)) = some (some (.agg #[.b false, .i 0, .b false, .u 0, .i 0, .i 0, .b false, .u 0, .i 0, .b false, .i 0, .b false, .u 0, .i 0, .i 0, .b false, .u 0, .i 0]), 18, 144) := by kernel_rfl
theorem infoCl : (Tryz.prog.info? 43).map (fun i => (i.zero, i.size, i.bytes)) = some (some (.agg #[.b false, .i 0, .b false, .u 0, .i 0, .i 0, .b false, .u 0, .i 0, .b false, .i 0, .b false, .u 0, .i 0, .i 0, .b false, .u 0, .i 0, .i 0]), 19, 152) := by kernel_rfl
theorem run_appP {w : World} (base : Nat) (v : Value) (xs : List Pr) (hown : OwnP w base v xs) (ty : TypeId) (B : Nat) (A : Addr) (m c : Nat) (ys : List Pr) (hys : SlP w B (some A) m ys) (hsm : xs.length + m ≤ 1000000) (hbase : base ≤ w.heap.size) :
  ∃ v' w', (Builtin.append_ #[53, 53] ty #[v, .slice (some A) m c]).run Tryz.prog w = .ok v' w' ∧ OwnP w' base v' (xs ++ ys) ∧ w.grownBy w' v.ownBlock ∧ (v'.ownBlock = v.ownBlock ∨ v'.ownBlock = some w.heap.size) := by
 obtain ⟨i0, hi, hz0, hz1, hz2⟩ := info_parts infoPr
 obtain ⟨v', w', hr, h2, h3, _, h5⟩ := run_append_own_at (P := Tryz.prog) w base 53 ty 41 i0 _ 18 144 Tryz.underlying53 hi hz0 hz1 hz2 rfl (by omega) v xs.length (xs.flatMap prCells) hown A m c (ys.flatMap prCells) (by rw [flatG_length prCells_length, hys.1]) (SlG.flat prCells_length (by decide) hys) (flatG_one prCells_one ys) (by simp only [maxLen]; omega) (by omega) hbase
 refine ⟨v', w', hr, ?_, h3, h5⟩
 unfold OwnP OwnG
 rw [List.flatMap_append, List.length_append, hys.1]
 exact h2
theorem run_appC {w : World} (base : Nat) (v : Value) (xs : List Cl) (hown : OwnC w base v xs) (ty : TypeId) (B : Nat) (A : Addr) (m c : Nat) (ys : List Cl) (hys : SlC w B (some A) m ys) (hsm : xs.length + m ≤ 1000000) (hbase : base ≤ w.heap.size) :
  ∃ v' w', (Builtin.append_ #[22, 22] ty #[v, .slice (some A) m c]).run Tryz.prog w = .ok v' w' ∧ OwnC w' base v' (xs ++ ys) ∧ w.grownBy w' v.ownBlock ∧ (v'.ownBlock = v.ownBlock ∨ v'.ownBlock = some w.heap.size) := by
 obtain ⟨i0, hi, hz0, hz1, hz2⟩ := info_parts infoCl
 obtain ⟨v', w', hr, h2, h3, _, h5⟩ := run_append_own_at (P := Tryz.prog) w base 22 ty 43 i0 _ 19 152 Tryz.underlying22 hi hz0 hz1 hz2 rfl (by omega) v xs.length (xs.flatMap clCells) hown A m c (ys.flatMap clCells) (by rw [flatG_length clCells_length, hys.1]) (SlG.flat clCells_length (by decide) hys) (flatG_one clCells_one ys) (by simp only [maxLen]; omega) (by omega) hbase
 refine ⟨v', w', hr, ?_, h3, h5⟩
 unfold OwnC OwnG
 rw [List.flatMap_append, List.length_append, hys.1]
 exact h2
section
variable {ops : Array Oper} {o : Oper} {a : Act} {Q : Exit → Act → World → Prop} {w : World}
theorem wpList_appP {rest : List Oper} (hgd : o.guard = none) (s x : Operand) (ho : o.op = .call { callee := .builtin .append, args := #[s, x], argTypes := #[53, 53] }) (base : Nat) (v : Value) (xs : List Pr) (hs : a.eval s = v) (hown : OwnP w base v xs) (B : Nat) (A : Addr) (m c : Nat) (ys : List Pr) (hx : a.eval x = .slice (some A) m c) (hys : SlP w B (some A) m ys) (hsm : xs.length + m ≤ 1000000) (hbase : base ≤ w.heap.size)
  (h : ∀ v' w', OwnP w' base v' (xs ++ ys) → w.grownBy w' v.ownBlock → (v'.ownBlock = v.ownBlock ∨ v'.ownBlock = some w.heap.size) → wpList Tryz.prog ops Q rest (a.put o.dst v') w') : wpList Tryz.prog ops Q (o :: rest) a w :=
 wpList_plain hgd fun _ hK => by
  obtain ⟨v', w', hr, h6, h3, h5⟩ := run_appP base v xs hown o.type B A m c ys hys hsm hbase
  unfold Oper.wp execOp
  simp only [ho, resolve, invoke, builtin, Sem.run_bind, Sem.run_pure, Result.andThen_ok, List.map_toArray, List.map_cons, List.map_nil, hs, hx, hr]
  exact hK _ _ (h v' w' h6 h3 h5)
end
def Only (S : Nat → Prop) (w w' : World) : Prop := w'.os = w.os ∧ w'.tape = w.tape ∧ w'.output = w.output ∧ w.heap.size ≤ w'.heap.size ∧ ∀ k, k < w.heap.size → ¬ S k → w'.heap[k]? = w.heap[k]?
theorem Only.below {S : Nat → Prop} {w w' : World} {n : Nat} (h : Only S w w') (hn : n ≤ w.heap.size) (hS : ∀ k, S k → n ≤ k) : Below n w w' := ⟨h.1, h.2.1, h.2.2.1, h.2.2.2.1, fun k hk => h.2.2.2.2 k (by omega) (fun e => by have := hS k e; omega)⟩
theorem Only.blk {S : Nat → Prop} {w w' : World} {g : Nat} {t : TypeId} {cs : Array Value} (h : Only S w w') (hb : Blk w g t cs) (hS : ¬ S g) : Blk w' g t cs := (h.2.2.2.2 g hb.lt hS).trans hb
theorem Only.trans {S : Nat → Prop} {w w' w'' : World} (h : Only S w w') (k : Only S w' w'') : Only S w w'' := ⟨k.1.trans h.1, k.2.1.trans h.2.1, k.2.2.1.trans h.2.2.1, Nat.le_trans h.2.2.2.1 k.2.2.2.1, fun j hj hn => (k.2.2.2.2 j (Nat.lt_of_lt_of_le hj h.2.2.2.1) hn).trans (h.2.2.2.2 j hj hn)⟩
theorem Only.of_below {S : Nat → Prop} {w w' : World} (h : Below w.heap.size w w') : Only S w w' := ⟨h.os, h.tape, h.output, h.size, fun k hk _ => h.block k hk⟩
theorem Only.of_grown {S : Nat → Prop} {w w' : World} {row : Option Nat} (h : w.grownBy w' row) (hS : ∀ k, row = some k → S k) : Only S w w' := ⟨h.os, h.tape, h.output, h.size, fun k hk hn => h.block k hk fun e => hn (hS k e.symm)⟩
theorem Only.of_put {S : Nat → Prop} {w w' : World} {g : Nat} (h : Put w w' g) (hS : S g) : Only S w w' := ⟨h.1, h.2.1, h.2.2.1, Nat.le_of_eq h.size.symm, fun k _ hn => h.2.2.2.2 k fun e => hn (by rw [e]; exact hS)⟩
set_option maxRecDepth 100000 in
set_option maxHeartbeats 4000000 in
theorem push_calls (V : Nat) (rest : List Value) (T : TypeId) (hT : T ≠ 41) (base : Nat) (vs : Value) (ps ys : List Pr) (A : Addr) (m c : Nat) (w : World) (hV : Blk w V T (vs :: rest).toArray) (ho : OwnP w base vs ps) (hb : base ≤ w.heap.size) (hys : SlP w w.heap.size (some A) m ys) (hsm : ps.length + m ≤ 1000000) :
  Calls Tryz.prog 17 #[.pointer (some ⟨V, 0, none⟩), .slice (some A) m c] w fun e w' => (∃ u, e = .returned u) ∧ ∃ v', Blk w' V T (v' :: rest).toArray ∧ OwnP w' base v' (ps ++ ys) ∧ Only (fun k => k = V ∨ vs.ownBlock = some k) w w' := by
 obtain ⟨A0, c0, rfl⟩ := ho.form
 obtain ⟨k0, f0⟩ : w.cell? ⟨V, 0, none⟩ = some (.slice A0 ps.length c0) ∧ w.frozen? ⟨V, 0, none⟩ = false := ⟨hV.cell 0, hV.frozen 0⟩
 have HO := Lib.hid ho
 go_enter Tryz.func17, Tryz.ntmps17
 go_wp2_with (refine wpList_appP (by rfl) (.tmp 8) (.tmp 9) (by rfl) base (.slice A0 ps.length c0) ps (by rfl) HO.out w.heap.size A m c ys (by rfl) hys hsm hb ?_; intro v3 w3 O3 hg3 hat3; obtain ⟨A3, c3, rfl⟩ := O3.form; have V3 := hV.grown hg3 (fun e => by obtain ⟨cur, hc⟩ := HO.out.cells e.symm; exact blk_ne hV hc hT rfl); clear k0 f0; obtain ⟨k0, f0⟩ : w3.cell? ⟨V, 0, none⟩ = some (.slice A0 ps.length c0) ∧ w3.frozen? ⟨V, 0, none⟩ = false := ⟨V3.cell 0, V3.frozen 0⟩)
 go_end0
 rw [List.length_append] at O3
 refine ⟨⟨_, rfl⟩, _, V3.set_ 0 _, O3.same fun k hk => Below.heap_setCell w3 ⟨V, 0, none⟩ _ k ?_, ?_⟩
 ·obtain ⟨cur, hc⟩ := O3.cells hk
  exact blk_ne hc V3 (Ne.symm hT)
 ·exact (Only.of_grown hg3 fun k e => .inr e).trans ((Only.of_put (S := fun k => k = V ∨ (Value.slice A0 ps.length c0).ownBlock = some k) (Put.cell w3 V 0 _) (.inl rfl)))
end Go.Proofs.YteabdeohhmbclaaGreat.Wk
