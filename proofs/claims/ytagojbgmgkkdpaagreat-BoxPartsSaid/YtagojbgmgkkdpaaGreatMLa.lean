import Derived.Test.YtagojbgmgkkdpaaGreatNumDef
import Derived.Test.YtagojbgmgkkdpaaGreatRegLib
import Derived.Test.YtagojbgmgkkdpaaGreatStG
import Derived.Maps.AppendAt
import Derived.Lib.SliceRun
import Derived.Lib.Walk
/- Plain: lists of limbs (32 bits each, the lowest first) and their numbers. Nothing of Go. -/
namespace Go.Proofs.Pl
set_option linter.unusedSimpArgs false
set_option linter.unusedVariables false

/-- each one is a limb -/
def Lim (l : List Int) : Prop := ∀ d ∈ l, 0 ≤ d ∧ d < 4294967296
/-- the number of limbs -/
def valL : List Int → Nat
 | [] => 0
 | d :: l => d.toNat + 4294967296 * valL l
/-- a number's limbs, without noughts at the top -/
def digs (n : Nat) : List Int := if h : n = 0 then [] else ((n % 4294967296 : Nat) : Int) :: digs (n / 4294967296)
termination_by n
decreasing_by exact Nat.div_lt_self (Nat.pos_of_ne_zero h) (by decide)
theorem digs_zero : digs 0 = [] := by unfold digs; rfl
theorem digs_pos {n : Nat} (h : n ≠ 0) : digs n = ((n % 4294967296 : Nat) : Int) :: digs (n / 4294967296) := by rw [digs, dif_neg h]
theorem valL_digs (n : Nat) : valL (digs n) = n := by
 induction n using Nat.strongRecOn with
 | ind n ih =>
  by_cases h : n = 0
  ·subst h; rw [digs_zero]; rfl
  ·rw [digs_pos h]
   simp only [valL]
   rw [ih _ (Nat.div_lt_self (Nat.pos_of_ne_zero h) (by decide))]
   omega
theorem digs_lim (n : Nat) : Lim (digs n) := by
 induction n using Nat.strongRecOn with
 | ind n ih =>
  by_cases h : n = 0
  ·subst h; rw [digs_zero]; intro d hd; cases hd
  ·rw [digs_pos h]
   intro d hd
   rcases List.mem_cons.1 hd with rfl | hd
   ·omega
   ·exact ih _ (Nat.div_lt_self (Nat.pos_of_ne_zero h) (by decide)) d hd
theorem Lim.tail {d : Int} {l : List Int} (h : Lim (d :: l)) : Lim l := fun x hx => h x (List.mem_cons_of_mem _ hx)
theorem Lim.app {a b : List Int} (h : Lim a) (g : Lim b) : Lim (a ++ b) := fun x hx => (List.mem_append.1 hx).elim (h x) (g x)
theorem Lim.take {l : List Int} (h : Lim l) (k : Nat) : Lim (l.take k) := fun x hx => h x (List.mem_of_mem_take hx)
theorem Lim.drop {l : List Int} (h : Lim l) (k : Nat) : Lim (l.drop k) := fun x hx => h x (List.mem_of_mem_drop hx)
theorem Lim.one {d : Int} (h : 0 ≤ d) (g : d < 4294967296) : Lim [d] := fun x hx => by rw [List.mem_singleton.1 hx]; exact ⟨h, g⟩
theorem Lim.nil : Lim [] := fun x hx => by cases hx
theorem Lim.zeros (k : Nat) : Lim (List.replicate k 0) := fun x hx => by rw [(List.mem_replicate.1 hx).2]; decide
theorem valL_app (a b : List Int) : valL (a ++ b) = valL a + 4294967296 ^ a.length * valL b := by
 induction a with
 | nil => simp [valL]
 | cons d a ih =>
  simp only [List.cons_append, valL, ih, List.length_cons, Nat.pow_succ]
  rw [Nat.mul_add, Nat.mul_comm (4294967296 ^ a.length) 4294967296, Nat.mul_assoc]
  omega
theorem valL_zeros (k : Nat) : valL (List.replicate k 0) = 0 := by
 induction k with
 | zero => rfl
 | succ k ih => simp only [List.replicate_succ, valL, ih]; rfl
theorem valL_lt {l : List Int} (h : Lim l) : valL l < 4294967296 ^ l.length := by
 induction l with
 | nil => simp [valL]
 | cons d l ih =>
  have h1 := h d (List.mem_cons_self)
  have h2 := ih h.tail
  simp only [valL, List.length_cons, Nat.pow_succ]
  generalize 4294967296 ^ l.length = P at h2
  omega
theorem digs_len {n k : Nat} (h : n < 4294967296 ^ k) : (digs n).length ≤ k := by
 induction k generalizing n with
 | zero =>
  have : n = 0 := by simpa using h
  rw [this, digs_zero]
  exact Nat.le_refl _
 | succ k ih =>
  by_cases h0 : n = 0
  ·rw [h0, digs_zero]; exact Nat.zero_le _
  ·rw [digs_pos h0, List.length_cons]
   have : n / 4294967296 < 4294967296 ^ k := by
    rw [Nat.pow_succ] at h
    exact Nat.div_lt_of_lt_mul (by rw [Nat.mul_comm]; exact h)
   have := ih this
   omega
/-- limbs without a nought at the top are the number's own -/
theorem digs_of {l : List Int} (h : Lim l) (ht : ∀ d, l.getLast? = some d → d ≠ 0) : digs (valL l) = l := by
 induction l with
 | nil => exact digs_zero
 | cons d l ih =>
  have h1 := h d (List.mem_cons_self)
  cases l with
  | nil =>
   have : d ≠ 0 := ht d rfl
   have e : valL [d] = d.toNat := by simp [valL]
   rw [e, digs_pos (by omega), Nat.div_eq_of_lt (by omega), digs_zero, Nat.mod_eq_of_lt (by omega), Int.toNat_of_nonneg h1.1]
  | cons e l =>
   have ih' := ih h.tail (fun d' hd => ht d' (by rw [List.getLast?_cons_cons]; exact hd))
   have hv : valL (e :: l) ≠ 0 := by
    intro h0
    rw [h0, digs_zero] at ih'
    cases ih'
   have e1 : valL (d :: e :: l) = d.toNat + 4294967296 * valL (e :: l) := rfl
   rw [e1, digs_pos (by omega)]
   have e2 : (d.toNat + 4294967296 * valL (e :: l)) % 4294967296 = d.toNat := by omega
   have e3 : (d.toNat + 4294967296 * valL (e :: l)) / 4294967296 = valL (e :: l) := by omega
   rw [e2, e3, ih', Int.toNat_of_nonneg h1.1]
theorem digs_top (n : Nat) : ∀ d, (digs n).getLast? = some d → d ≠ 0 := by
 induction n using Nat.strongRecOn with
 | ind n ih =>
  intro d hd
  by_cases h : n = 0
  ·subst h; rw [digs_zero] at hd; cases hd
  ·rw [digs_pos h] at hd
   by_cases h2 : n / 4294967296 = 0
   ·rw [h2, digs_zero] at hd
    simp at hd
    omega
   ·rw [digs_pos h2, List.getLast?_cons_cons, ← digs_pos h2] at hd
    exact ih _ (Nat.div_lt_self (Nat.pos_of_ne_zero h) (by decide)) d hd
/-- what Trim leaves -/
theorem take_digs {l : List Int} (h : Lim l) (n : Nat) (hn : n ≤ l.length) (hz : ∀ j, n ≤ j → ∀ d, l[j]? = some d → d = 0) (ht : n = 0 ∨ ∀ d, l[n - 1]? = some d → d ≠ 0) : l.take n = digs (valL l) := by
 have hd : valL (l.drop n) = 0 := by
  have : ∀ m : List Int, (∀ d ∈ m, d = 0) → valL m = 0 := by
   intro m
   induction m with
   | nil => intro _; rfl
   | cons d m ih =>
    intro hm
    simp only [valL]
    rw [ih (fun x hx => hm x (List.mem_cons_of_mem _ hx)), hm d (List.mem_cons_self)]
    rfl
  refine this _ fun d hd => ?_
  obtain ⟨j, hj⟩ := List.getElem?_of_mem hd
  rw [List.getElem?_drop] at hj
  exact hz (n + j) (by omega) d hj
 have hv : valL l = valL (l.take n) := by
  conv => lhs; rw [← List.take_append_drop n l]
  rw [valL_app, hd, Nat.mul_zero, Nat.add_zero]
 rw [hv]
 refine (digs_of (h.take n) fun d hd => ?_).symm
 rcases ht with rfl | ht
 ·simp at hd
 ·by_cases h0 : n = 0
  ·subst h0; simp at hd
  ·refine ht d ?_
   rw [List.getLast?_eq_getElem?, List.length_take, Nat.min_eq_left hn, List.getElem?_take] at hd
   rw [if_pos (by omega)] at hd
   exact hd
theorem valL_snoc (l : List Int) (d : Int) : valL (l ++ [d]) = valL l + 4294967296 ^ l.length * d.toNat := by
 rw [valL_app]; simp [valL]
theorem valL_take_succ {l : List Int} {k : Nat} {d : Int} (h : l[k]? = some d) : valL (l.take (k + 1)) = valL (l.take k) + 4294967296 ^ k * d.toNat := by
 have hk : k < l.length := (List.getElem?_eq_some_iff.1 h).1
 rw [List.take_add_one, h]
 show valL (l.take k ++ [d]) = _
 rw [valL_snoc, List.length_take, Nat.min_eq_left (by omega)]
/-- the lower of two, by their limbs from the top -/
theorem valL_cmp {a b : List Int} (ha : Lim a) (hb : Lim b) (hl : a.length = b.length) {i : Nat} {x y : Int} (hx : a[i]? = some x) (hy : b[i]? = some y) (hd : a.drop (i + 1) = b.drop (i + 1)) (hlt : x < y) : valL a < valL b := by
 have e1 : valL a = valL (a.take (i + 1)) + 4294967296 ^ (i + 1) * valL (a.drop (i + 1)) := by
  have hi : i < a.length := (List.getElem?_eq_some_iff.1 hx).1
  conv => lhs; rw [← List.take_append_drop (i + 1) a]
  rw [valL_app, List.length_take, Nat.min_eq_left (by omega)]
 have e2 : valL b = valL (b.take (i + 1)) + 4294967296 ^ (i + 1) * valL (b.drop (i + 1)) := by
  have hi : i < b.length := (List.getElem?_eq_some_iff.1 hy).1
  conv => lhs; rw [← List.take_append_drop (i + 1) b]
  rw [valL_app, List.length_take, Nat.min_eq_left (by omega)]
 rw [e1, e2, hd, valL_take_succ hx, valL_take_succ hy]
 have hi : i < a.length := (List.getElem?_eq_some_iff.1 hx).1
 have t1 := valL_lt (ha.take i)
 rw [List.length_take, Nat.min_eq_left (by omega)] at t1
 have x0 := ha x (List.mem_of_getElem? hx)
 have y0 := hb y (List.mem_of_getElem? hy)
 have hm : 4294967296 ^ i * (x.toNat + 1) ≤ 4294967296 ^ i * y.toNat := Nat.mul_le_mul_left _ (by omega)
 rw [Nat.mul_add, Nat.mul_one] at hm
 omega
theorem digs_short {p q : Nat} (h : (digs p).length < (digs q).length) : p < q := by
 rcases Nat.lt_or_ge p q with h1 | h1
 ·exact h1
 ·exfalso
  have hp := valL_lt (digs_lim p)
  rw [valL_digs] at hp
  have := digs_len (n := q) (k := (digs p).length) (by omega)
  omega
end Go.Proofs.Pl

/- Slices of limbs: as lists, made by the call, appended to. -/
namespace Go.Proofs.YtagojbgmgkkdpaaGreat.Wk
open Go.RowKit Go.Proofs.Pl Go.Proofs.YtagojbgmgkkdpaaGreatW.PrintLast
set_option linter.unusedSimpArgs false
set_option linter.unusedVariables false

theorem infoU : (Tryz.prog.info? 117).map (fun i => (i.zero, i.size, i.bytes)) = some (some (.int .u32 0), 1, 4) := by kernel_rfl
def flatU (xs : List Int) : List Value := xs.map fun b => .int .u32 b
theorem flatU_app (xs ys : List Int) : flatU (xs ++ ys) = flatU xs ++ flatU ys := by simp [flatU]
theorem flatU_length (xs : List Int) : (flatU xs).length = xs.length := by simp [flatU]
theorem flatU_one (xs : List Int) : ∀ u ∈ flatU xs, u.oneCell' = true := by
 intro u hu
 obtain ⟨x, _, rfl⟩ := List.mem_map.1 hu
 rfl
theorem addAtU (b off k : Nat) : (⟨b, off, none⟩ : Addr).add k = ⟨b, off + k, none⟩ := by
 unfold Addr.add
 split
 ·next h => subst h; rfl
 ·simp
/-- A slice of limbs, below block B. -/
def SlU (w : World) (B : Nat) (A : Option Addr) (n : Nat) (xs : List Int) : Prop :=
 xs.length = n ∧ Lim xs ∧ (0 < n → ∃ b off, A = some ⟨b, off, none⟩ ∧ b < B ∧ ∀ (i : Nat) (x : Int), xs[i]? = some x → w.cell? ⟨b, off + i, none⟩ = some (.int .u32 x))
section
variable {w w' : World} {B B' n : Nat} {A : Option Addr} {xs : List Int}
theorem SlU.keep (h : SlU w B A n xs) (hk : ∀ b o, b < B → w'.cell? ⟨b, o, none⟩ = w.cell? ⟨b, o, none⟩) : SlU w' B A n xs :=
 ⟨h.1, h.2.1, fun hn => by
  obtain ⟨b, off, e, hb, hc⟩ := h.2.2 hn
  exact ⟨b, off, e, hb, fun i x hx => (hk b _ hb).trans (hc i x hx)⟩⟩
theorem SlU.below (h : SlU w B A n xs) (hb : Below B w w') : SlU w' B A n xs := h.keep fun b o hlt => hb.cell (p := ⟨b, o, none⟩) hlt
theorem SlU.more (h : SlU w B A n xs) (hB : B ≤ B') : SlU w B' A n xs := ⟨h.1, h.2.1, fun hn => by obtain ⟨b, off, e, hb, hc⟩ := h.2.2 hn; exact ⟨b, off, e, by omega, hc⟩⟩
theorem SlU.on (h : SlU w w.heap.size A n xs) (hb : Below w.heap.size w w') : SlU w' w'.heap.size A n xs := (h.below hb).more hb.size
theorem SlU.at_ (h : SlU w B A n xs) {k : Nat} (hk : k < n) : ∃ b off x, A = some ⟨b, off, none⟩ ∧ b < B ∧ xs[k]? = some x ∧ (0 ≤ x ∧ x < 4294967296) ∧ w.cell? ⟨b, off + k, none⟩ = some (.int .u32 x) := by
 obtain ⟨b, off, e, hb, hc⟩ := h.2.2 (by omega)
 have hl : k < xs.length := by have := h.1; omega
 exact ⟨b, off, xs[k], e, hb, List.getElem?_eq_getElem hl, h.2.1 _ (List.getElem_mem hl), hc k _ (List.getElem?_eq_getElem hl)⟩
theorem SlU.nil (w : World) (B : Nat) (A : Option Addr) : SlU w B A 0 [] := ⟨rfl, Lim.nil, fun h => absurd h (by omega)⟩
theorem SlU.flat {A : Addr} (h : SlU w B (some A) n xs) : ∀ j u, (flatU xs)[j]? = some u → w.cell? (A.add j) = some u := by
 intro j u hu
 simp only [flatU, List.getElem?_map] at hu
 cases hx : xs[j]? with
 | none => rw [hx] at hu; cases hu
 | some x =>
  rw [hx] at hu
  have hi : j < n := by rw [← h.1]; exact (List.getElem?_eq_some_iff.1 hx).1
  obtain ⟨b, off, e, hb, hc⟩ := h.2.2 (by omega)
  cases e
  rw [addAtU]
  cases hu
  exact hc j x hx
theorem SlU.ofFlat {g off : Nat} (hl : xs.length = n) (hL : Lim xs) (hg : g < B) (h : ∀ j u, (flatU xs)[j]? = some u → w.cell? ⟨g, off + j, none⟩ = some u) : SlU w B (some ⟨g, off, none⟩) n xs :=
 ⟨hl, hL, fun _ => ⟨g, off, rfl, hg, fun i x hx => h i _ (by simp [flatU, hx])⟩⟩
theorem SlU.take (h : SlU w B A n xs) {k : Nat} (hk : k ≤ n) : SlU w B A k (xs.take k) := by
 refine ⟨by rw [List.length_take, h.1]; omega, h.2.1.take k, fun hk0 => ?_⟩
 obtain ⟨b, off, e, hb, hc⟩ := h.2.2 (by omega)
 refine ⟨b, off, e, hb, fun i x hx => hc i x ?_⟩
 rw [List.getElem?_take] at hx
 split at hx
 ·exact hx
 ·cases hx
end
theorem SlU.lit1 {w : World} {g B : Nat} {T : TypeId} {x : Int} (h : Blk w g T #[.int .u32 x]) (h0 : 0 ≤ x) (h1 : x < 4294967296) (hB : g < B) : SlU w B (some ⟨g, 0, none⟩) 1 [x] :=
 ⟨rfl, Lim.one h0 h1, fun _ => ⟨g, 0, rfl, hB, fun i z hz => by
  match i, hz with
  | 0, hz => simp only [List.getElem?_cons_zero, Option.some.injEq] at hz; subst hz; exact h.cell 0
  | i + 1, hz => simp at hz⟩⟩
/-- a slice of limbs that the call made -/
def OwnU (w : World) (base : Nat) (v : Value) (xs : List Int) : Prop := w.ownsRow base 117 1 v xs.length (flatU xs)
theorem OwnU.sl {w : World} {base : Nat} {v : Value} {xs : List Int} (h : OwnU w base v xs) (hL : Lim xs) : ∃ A c, v = .slice A xs.length c ∧ xs.length ≤ c ∧ SlU w w.heap.size A xs.length xs := by
 rcases h.2 with ⟨rfl, hn⟩ | ⟨g, cap, cur, rfl, hb, hg, hnc, hcm, hcs, htake⟩
 ·have e : xs = [] := List.eq_nil_of_length_eq_zero hn
  subst e
  exact ⟨none, 0, rfl, Nat.le_refl _, SlU.nil _ _ _⟩
 ·refine ⟨_, cap, rfl, hnc, SlU.ofFlat rfl hL ?_ fun j u hu => ?_⟩
  ·rcases Nat.lt_or_ge g w.heap.size with hlt | hge
   ·exact hlt
   ·rw [Array.getElem?_eq_none hge] at hg; cases hg
  ·have hj : j < xs.length * 1 := by rw [Nat.mul_one, ← flatU_length]; exact (List.getElem?_eq_some_iff.1 hu).1
   rw [Nat.zero_add]
   exact (World.ownsRow.cellAt h j hj).trans hu
theorem OwnU.sln {w : World} {base n : Nat} {v : Value} {xs : List Int} (h : OwnU w base v xs) (hL : Lim xs) (hn : xs.length = n) : ∃ A c, v = .slice A n c ∧ n ≤ c ∧ SlU w w.heap.size A n xs := by
 subst hn
 exact h.sl hL
theorem OwnU.nil (w : World) (base : Nat) : OwnU w base (.slice none 0 0) [] := World.ownsRow_nil _ _ _ _
theorem OwnU.lt {w : World} {base : Nat} {v : Value} {xs : List Int} (h : OwnU w base v xs) : ∀ k, v.ownBlock = some k → base ≤ k ∧ k < w.heap.size := World.ownsRow.lt h
theorem OwnU.same {w w' : World} {base : Nat} {v : Value} {xs : List Int} (h : OwnU w base v xs) (hk : ∀ k, v.ownBlock = some k → w'.heap[k]? = w.heap[k]?) : OwnU w' base v xs := by
 refine ⟨h.1, ?_⟩
 rcases h.2 with hn | ⟨g, cap, cur, rfl, hb, hgg, rest⟩
 ·exact .inl hn
 ·exact .inr ⟨g, cap, cur, rfl, hb, (hk g rfl).trans hgg, rest⟩
theorem OwnU.call {w w' : World} {base : Nat} {v : Value} {xs : List Int} (h : OwnU w base v xs) (hb : Below w.heap.size w w') : OwnU w' base v xs := h.same fun k hk => hb.block k (h.lt k hk).2
theorem OwnU.alloc {w : World} {base : Nat} {v : Value} {xs : List Int} (h : OwnU w base v xs) (o : Obj) : OwnU (w.alloc o) base v xs := World.ownsRow.alloc h o
theorem OwnU.drew {w : World} {base : Nat} {v : Value} {xs : List Int} (h : OwnU w base v xs) : OwnU w.drew base v xs := World.ownsRow.drew h
theorem OwnU.base {w : World} {b b' : Nat} {v : Value} {xs : List Int} (h : OwnU w b v xs) (hb : b' ≤ b) : OwnU w b' v xs := ⟨h.1, h.2.imp id (fun ⟨g, cap, cur, h1, h2, h3⟩ => ⟨g, cap, cur, h1, Nat.le_trans hb h2, h3⟩)⟩
theorem OwnU.ne {w : World} {base g : Nat} {v : Value} {xs : List Int} {t : TypeId} {cs : Array Value} (h : OwnU w base v xs) (hb : Blk w g t cs) (ht : t ≠ 117) : some g ≠ v.ownBlock := by
 rcases h.2 with ⟨rfl, _⟩ | ⟨g', cap, cur, rfl, _, hgg, _⟩
 ·intro e; cases e
 ·intro e
  cases e
  unfold Blk at hb
  rw [hb] at hgg
  cases hgg
  exact ht rfl
/-- what a function that hands back a number's limbs leaves -/
def RetU (w : World) (N : Nat) (e : Ending) (w' : World) : Prop := ∃ A n c, e = .returned (.slice A n c) ∧ n ≤ c ∧ SlU w' w'.heap.size A n (digs N) ∧ Below w.heap.size w w'
section
variable {ops : Array Oper} {o : Oper} {a : Act} {K : Act → World → Prop} {Q : Exit → Act → World → Prop} {w : World}
theorem run_appU (base : Nat) (v : Value) (xs : List Int) (hown : OwnU w base v xs) (ty : TypeId) (B : Nat) (A : Option Addr) (m c : Nat) (ys : List Int) (hys : SlU w B A m ys) (hsm : xs.length + m ≤ 1000000) (hbase : base ≤ w.heap.size) :
  ∃ v' w', (Builtin.append_ #[124, 124] ty #[v, .slice A m c]).run Tryz.prog w = .ok v' w' ∧ OwnU w' base v' (xs ++ ys) ∧ w.grownBy w' v.ownBlock ∧ (v'.ownBlock = v.ownBlock ∨ v'.ownBlock = some w.heap.size) := by
 obtain ⟨i0, hi, hz0, hz1, hz2⟩ := info_parts infoU
 cases A with
 | some A =>
  obtain ⟨v', w', hr, h2, h3, _, h5⟩ := run_append_own_at (P := Tryz.prog) w base 124 ty 117 i0 _ 1 4 Tryz.underlying124 hi hz0 hz1 hz2 rfl (by omega) v xs.length (flatU xs) hown A m c (flatU ys) (by rw [flatU_length, hys.1]; omega) (SlU.flat hys) (flatU_one ys) (by simp only [maxLen]; omega) (by omega) hbase
  refine ⟨v', w', hr, ?_, h3, h5⟩
  unfold OwnU
  rw [flatU_app, List.length_append, hys.1]
  exact h2
 | none =>
  have hm : m = 0 := by
   rcases Nat.eq_zero_or_pos m with h | h
   ·exact h
   ·obtain ⟨_, _, e, _⟩ := hys.2.2 h; cases e
  subst hm
  have hn : ys = [] := List.eq_nil_of_length_eq_zero hys.1
  subst hn
  rw [List.append_nil]
  refine ⟨v, w, ?_, hown, ⟨rfl, rfl, rfl, Nat.le_refl _, fun _ _ _ => rfl⟩, .inl rfl⟩
  have hu : Tryz.prog.underlying 124 = some (.slice 117) := Tryz.underlying124
  rcases hown.2 with ⟨rfl, hn⟩ | ⟨g, cap, cur, rfl, hb, hg, hnc, hcm, hcs, htake⟩
  ·simp [Builtin.append_, run_underlying hu, sizeOf, typeInfo, hi, Builtin.lenOf, Builtin.firstCells, loadCells, loadCellsFrom]
  ·simp [Builtin.append_, run_underlying hu, sizeOf, typeInfo, hi, Builtin.lenOf, Builtin.firstCells, loadCells, loadCellsFrom, hnc, storeCells]
theorem wpList_appU {rest : List Oper} (hgd : o.guard = none) (s x : Operand) (ho : o.op = .call { callee := .builtin .append, args := #[s, x], argTypes := #[124, 124] }) (base : Nat) (v : Value) (xs : List Int) (hs : a.eval s = v) (hown : OwnU w base v xs) (B : Nat) (A : Option Addr) (m c : Nat) (ys : List Int) (hx : a.eval x = .slice A m c) (hys : SlU w B A m ys) (hsm : xs.length + m ≤ 1000000) (hbase : base ≤ w.heap.size)
  (h : ∀ v' w', OwnU w' base v' (xs ++ ys) → w.grownBy w' v.ownBlock → (v'.ownBlock = v.ownBlock ∨ v'.ownBlock = some w.heap.size) → wpList Tryz.prog ops Q rest (a.put o.dst v') w') : wpList Tryz.prog ops Q (o :: rest) a w :=
 wpList_plain hgd fun _ hK => by
  obtain ⟨v', w', hr, h6, h3, h5⟩ := run_appU base v xs hown o.type B A m c ys hys hsm hbase
  unfold Oper.wp execOp
  simp only [ho, resolve, invoke, builtin, Sem.run_bind, Sem.run_pure, Result.andThen_ok, List.map_toArray, List.map_cons, List.map_nil, hs, hx, hr]
  exact hK _ _ (h v' w' h6 h3 h5)
theorem step_appU {E : Prop} (hgd : o.guard = none) (s x : Operand) (ho : o.op = .call { callee := .builtin .append, args := #[s, x], argTypes := #[124, 124] }) (base : Nat) (v : Value) (xs : List Int) (hs : a.eval s = v) (hown : OwnU w base v xs) (B : Nat) (A : Option Addr) (m c : Nat) (ys : List Int) (hx : a.eval x = .slice A m c) (hys : SlU w B A m ys) (hsm : xs.length + m ≤ 1000000) (hbase : base ≤ w.heap.size)
  (h : ∀ v' w', OwnU w' base v' (xs ++ ys) → w.grownBy w' v.ownBlock → (v'.ownBlock = v.ownBlock ∨ v'.ownBlock = some w.heap.size) → K (a.put o.dst v') w') : if Region.wanted o (yielded ops a.tmps) = true then Oper.wp Tryz.prog o a w K Q else E := by
 have hw : Region.wanted o (yielded ops a.tmps) = true := by simp [Region.wanted, hgd]
 rw [if_pos hw]
 obtain ⟨v', w', hr, h1, h2, h3⟩ := run_appU base v xs hown o.type B A m c ys hys hsm hbase
 unfold Oper.wp execOp
 simp only [ho, resolve, invoke, builtin, Sem.run_bind, Sem.run_pure, Result.andThen_ok, List.map_toArray, List.map_cons, List.map_nil, hs, hx, hr]
 exact h _ _ h1 h2 h3
end
end Go.Proofs.YtagojbgmgkkdpaaGreat.Wk

/- Walks: the reference's Trim, at. -/
namespace Go.Proofs.YtagojbgmgkkdpaaGreat.Wk
open Go.RowKit Go.Proofs.Pl Go.Proofs.YtagojbgmgkkdpaaGreatW.PrintLast
set_option linter.unusedSimpArgs false
set_option linter.unusedVariables false

set_option maxRecDepth 100000 in
set_option maxHeartbeats 4000000 in
theorem r1trim_calls (A : Option Addr) (n c : Nat) (xs : List Int) (w : World) (hs : SlU w w.heap.size A n xs) (hn : n ≤ 100000) (hc : n ≤ c) :
  Calls Tryz.prog 142 #[.slice A n c] w (RetU w (valL xs)) := by
 go_enter Tryz.func142, Tryz.ntmps142
 go_wp2
 go_loopw [3] (fun i wr => ∃ k : Nat, k ≤ n ∧ i = .int .i64 k ∧ (∀ j, k ≤ j → ∀ d, xs[j]? = some d → d = 0) ∧ wr = w) (fun i _ => (intOf i).toNat)
 case atStart => exact ⟨n, Nat.le_refl _, rfl, fun j hj d hd => by have := (List.getElem?_eq_some_iff.1 hd).1; have := hs.1; omega, rfl⟩
 case round =>
  obtain ⟨k, hk, rfl, hall, rfl⟩ := hrel
  have Hall := Lib.hid hall
  clear hall
  have hkc : k ≤ c := by omega
  have hlen := hs.1
  have hL := Lib.hid hs.2.1
  rcases Nat.eq_zero_or_pos k with h0 | h0
  ·subst h0
   have hE : digs (valL xs) = [] := (take_digs hL.out 0 (Nat.zero_le _) (fun j hj d hd => Hall.out j hj d hd) (.inl rfl)).symm
   have HE := Lib.hid hE
   clear hE hs
   cases A
   all_goals go_wp2_with (at_builtin; refine wpList_appU rfl (.const (.slice none 0 0)) (.tmp 20) rfl wr.heap.size (.slice none 0 0) [] rfl (OwnU.nil _ _) wr.heap.size _ 0 c [] rfl (SlU.nil _ _ _) (by simp) (Nat.le_refl _) ?_; intro v1 w1 O1 hg1 hat1)
   all_goals go_ret
   all_goals obtain ⟨A1, c1, rfl, hc1, S1⟩ := O1.sln Lim.nil rfl
   all_goals exact ⟨A1, 0, c1, rfl, Nat.zero_le _, by rw [HE.out]; exact S1, (Below.refl _ wr).grown hg1 (Nat.le_refl _) (fun k hk => by cases hk)⟩
  ·obtain ⟨j, rfl⟩ : ∃ j, k = j + 1 := ⟨k - 1, by omega⟩
   obtain ⟨b, off, x, rfl, hbB, hx, hxl, e0⟩ := hs.at_ (k := j) (by omega)
   have Hx := Lib.hid hx
   have S := Lib.hid hs
   clear hs hx
   by_cases hx0 : x = 0
   ·subst hx0
    go_wp2_with fail
    refine ⟨⟨j, by omega, by go_num, fun i hi d hd => ?_, by trivial⟩, by simp [intOf]⟩
    by_cases e : i = j
    ·subst e
     rw [Hx.out] at hd
     cases hd
     rfl
    ·exact Hall.out i (by omega) d hd
   ·have HE : Hid (xs.take (j + 1) = digs (valL xs)) := Lib.hid (take_digs hL.out (j + 1) (by omega) (fun i hi d hd => Hall.out i hi d hd) (.inr fun d hd => by
     rw [Nat.add_sub_cancel, Hx.out] at hd
     cases hd
     exact hx0))
    go_wp2_with (at_builtin; refine wpList_appU rfl (.const (.slice none 0 0)) (.tmp 20) rfl wr.heap.size (.slice none 0 0) [] rfl (OwnU.nil _ _) wr.heap.size _ (j + 1) c (xs.take (j + 1)) rfl (S.out.take (by omega)) (by simp; omega) (Nat.le_refl _) ?_; intro v1 w1 O1 hg1 hat1)
    go_ret
    obtain ⟨A1, c1, rfl, hc1, S1⟩ := O1.sln (n := j + 1) (hL.out.take _) (by rw [List.nil_append, List.length_take]; omega)
    exact ⟨A1, j + 1, c1, rfl, hc1, by rw [← HE.out]; exact S1, (Below.refl _ wr).grown hg1 (Nat.le_refl _) (fun k hk => by cases hk)⟩

/-- a limb; nought beyond the last one -/
def limb (xs : List Int) (i : Nat) : Int := xs.getD i 0
theorem limb_in {xs : List Int} {i : Nat} {x : Int} (h : xs[i]? = some x) : limb xs i = x := by
 unfold limb; rw [List.getD_eq_getElem?_getD, h]; rfl
theorem limb_out {xs : List Int} {i : Nat} (h : xs.length ≤ i) : limb xs i = 0 := by
 unfold limb; rw [List.getD_eq_getElem?_getD, List.getElem?_eq_none h]; rfl
theorem limb_lim {xs : List Int} (h : Lim xs) (i : Nat) : 0 ≤ limb xs i ∧ limb xs i < 4294967296 := by
 cases hx : xs[i]? with
 | none => rw [limb_out (List.getElem?_eq_none_iff.1 hx)]; decide
 | some x => rw [limb_in hx]; exact h x (List.mem_of_getElem? hx)
set_option maxRecDepth 100000 in
set_option maxHeartbeats 4000000 in
theorem r1at_calls (A : Option Addr) (n c i : Nat) (xs : List Int) (w : World) (hs : SlU w w.heap.size A n xs) (hn : n ≤ 100000) (hi : i ≤ 1000000000) :
  Calls Tryz.prog 145 #[.slice A n c, .int .i64 i] w fun e w' => e = .returned (.int .u64 (limb xs i)) ∧ w' = w := by
 by_cases h : i < n
 ·obtain ⟨b, off, x, rfl, hbB, hx, hxl, e0⟩ := hs.at_ h
  rw [limb_in hx]
  go_enter Tryz.func145, Tryz.ntmps145
  go_wp2
  go_ret
  exact ⟨rfl, rfl⟩
 ·rw [limb_out (by rw [hs.1]; omega)]
  go_enter Tryz.func145, Tryz.ntmps145
  go_wp2
  go_ret
  exact ⟨rfl, rfl⟩
end Go.Proofs.YtagojbgmgkkdpaaGreat.Wk

/- Walk: the reference's Add of limbs. -/
namespace Go.Proofs.YtagojbgmgkkdpaaGreat.Wk
open Go.RowKit Go.Proofs.Pl Go.Proofs.YtagojbgmgkkdpaaGreatW.PrintLast
set_option linter.unusedSimpArgs false
set_option linter.unusedVariables false

theorem valL_limb {l : List Int} (k : Nat) : valL (l.take (k + 1)) = valL (l.take k) + 4294967296 ^ k * (limb l k).toNat := by
 cases h : l[k]? with
 | none =>
  have hl : l.length ≤ k := List.getElem?_eq_none_iff.1 h
  rw [limb_out hl, List.take_of_length_le hl, List.take_of_length_le (by omega)]
  simp
 | some d => rw [valL_take_succ h, limb_in h]
theorem add_step {L : List Int} {k X Y y : Nat} {a b : Int} (hL : L.length = k) (h : valL L + 4294967296 ^ k * y = X + Y) (a0 : 0 ≤ a) (b0 : 0 ≤ b) :
  valL (L ++ [(a + b + y) % 4294967296]) + 4294967296 ^ (k + 1) * ((a + b + y) / 4294967296).toNat = (X + 4294967296 ^ k * a.toNat) + (Y + 4294967296 ^ k * b.toNat) := by
 rw [valL_snoc, hL, Nat.pow_succ, Nat.mul_assoc, Nat.add_assoc, ← Nat.mul_add]
 have e : ((a + b + y) % 4294967296).toNat + 4294967296 * ((a + b + y) / 4294967296).toNat = a.toNat + b.toNat + y := by omega
 rw [e, Nat.mul_add, Nat.mul_add]
 generalize 4294967296 ^ k * a.toNat = p
 generalize 4294967296 ^ k * b.toNat = q
 generalize 4294967296 ^ k * y = r at h ⊢
 omega
set_option maxRecDepth 100000 in
set_option maxHeartbeats 4000000 in
theorem r1add_calls (A : Option Addr) (n c : Nat) (xs : List Int) (B : Option Addr) (m d : Nat) (ys : List Int) (w : World) (hs : SlU w w.heap.size A n xs) (ht : SlU w w.heap.size B m ys) (hn : n ≤ 50000) (hm : m ≤ 50000) :
  Calls Tryz.prog 133 #[.slice A n c, .slice B m d] w (RetU w (valL xs + valL ys)) := by
 go_enter Tryz.func133, Tryz.ntmps133
 go_wp2
 go_loopw [5, 6, 7, 8] (fun v cy i _ wr => ∃ (k : Nat) (L : List Int) (y : Nat), k ≤ max n m + 1 ∧ i = .int .i64 k ∧ cy = .int .u64 y ∧ y ≤ 1 ∧ L.length = k ∧ Lim L ∧ (valL L + 4294967296 ^ k * y = valL (xs.take k) + valL (ys.take k)) ∧ (k = max n m + 1 → y = 0) ∧ OwnU wr w.heap.size v L ∧ Below w.heap.size w wr) (fun _ _ i _ _ => max n m + 2 - (intOf i).toNat)
 case atStart => exact ⟨0, [], 0, by omega, rfl, rfl, by omega, rfl, Lim.nil, by simp [valL], fun _ => rfl, OwnU.nil _ _, Below.refl _ _⟩
 case round =>
  obtain ⟨k, L, y, hk, rfl, rfl, hy, hL, hLim, hval, hlast, O, HB⟩ := hrel
  have Hval := Lib.hid hval
  have Hlast := Lib.hid hlast
  have HLim := Lib.hid hLim
  have O := Lib.hid O
  have HSx := Lib.hid (hs.below HB |>.more HB.size)
  have HSy := Lib.hid (ht.below HB |>.more HB.size)
  have HA := Lib.hid (fun W h => r1at_calls A n c k xs W h (by omega) (by omega))
  have HA' := Lib.hid (fun W h => r1at_calls B m d k ys W h (by omega) (by omega))
  have hvx := Lib.hid (valL_limb (l := xs) k)
  have hvy := Lib.hid (valL_limb (l := ys) k)
  obtain ⟨a0, a1⟩ := limb_lim hs.2.1 k
  have ha0 : n ≤ k → limb xs k = 0 := fun h => limb_out (by rw [hs.1]; exact h)
  have hb0 : m ≤ k → limb ys k = 0 := fun h => limb_out (by rw [ht.1]; exact h)
  obtain ⟨b0, b1⟩ := limb_lim ht.2.1 k
  have Hs := Lib.hid hs
  have Ht := Lib.hid ht
  clear hval hlast hLim hs ht
  generalize limb xs k = a at HA hvx a0 a1 ha0
  generalize limb ys k = b at HA' hvy b0 b1 hb0
  have hd0 : 0 ≤ (a + b + y) % 4294967296 := by omega
  have hd1 : (a + b + y) % 4294967296 < 4294967296 := by omega
  by_cases h1 : k < n
  ·have hkm : k ≤ max n m := by omega
   go_wp2_with (first
    | (go_at_call 145; first
     | ((with_reducible refine (HA.out _ HSx.out).mono ?_); rintro e w1 ⟨rfl, hw⟩; obtain rfl := hw.symm)
     | ((with_reducible refine (HA'.out _ HSy.out).mono ?_); rintro e w1 ⟨rfl, hw⟩; obtain rfl := hw.symm))
    | (at_builtin; refine wpList_appU rfl (.tmp 34) (.tmp 38) rfl w.heap.size _ L rfl (O.out.alloc _) (wr.heap.size + 1) (some ⟨wr.heap.size, 0, none⟩) 1 1 [_] rfl (SlU.lit1 (Blk.new wr _ _) hd0 hd1 (by omega)) (by simp; omega) (by have := HB.size; simp; omega) ?_; intro v3 w3 O3 hg3 hat3))
   refine ⟨⟨k + 1, _, ((a + b + y) / 4294967296).toNat, by omega, by go_num, by rw [Int.toNat_of_nonneg (by omega)], by omega, by rw [List.length_append, hL]; rfl, HLim.out.app (Lim.one hd0 hd1), by rw [hvx.out, hvy.out]; exact add_step hL Hval.out a0 b0, fun e => by have := ha0 (by omega); have := hb0 (by omega); omega, O3, (HB.alloc HB.size _).grown hg3 (by have := HB.size; simp; omega) (fun k hk => (O.out.lt k hk).1)⟩, by simp [intOf]; omega⟩
  ·by_cases h2 : k < m
   ·have hkm : k ≤ max n m := by omega
    go_wp2_with (first
     | (go_at_call 145; first
      | ((with_reducible refine (HA.out _ HSx.out).mono ?_); rintro e w1 ⟨rfl, hw⟩; obtain rfl := hw.symm)
      | ((with_reducible refine (HA'.out _ HSy.out).mono ?_); rintro e w1 ⟨rfl, hw⟩; obtain rfl := hw.symm))
     | (at_builtin; refine wpList_appU rfl (.tmp 34) (.tmp 38) rfl w.heap.size _ L rfl (O.out.alloc _) (wr.heap.size + 1) (some ⟨wr.heap.size, 0, none⟩) 1 1 [_] rfl (SlU.lit1 (Blk.new wr _ _) hd0 hd1 (by omega)) (by simp; omega) (by have := HB.size; simp; omega) ?_; intro v3 w3 O3 hg3 hat3))
    refine ⟨⟨k + 1, _, ((a + b + y) / 4294967296).toNat, by omega, by go_num, by rw [Int.toNat_of_nonneg (by omega)], by omega, by rw [List.length_append, hL]; rfl, HLim.out.app (Lim.one hd0 hd1), by rw [hvx.out, hvy.out]; exact add_step hL Hval.out a0 b0, fun e => by have := ha0 (by omega); have := hb0 (by omega); omega, O3, (HB.alloc HB.size _).grown hg3 (by have := HB.size; simp; omega) (fun k hk => (O.out.lt k hk).1)⟩, by simp [intOf]; omega⟩
   ·by_cases h3 : 0 < y
    ·have hkm : k ≤ max n m := by
      have := Hlast.out
      omega
     go_wp2_with (first
      | (go_at_call 145; first
       | ((with_reducible refine (HA.out _ HSx.out).mono ?_); rintro e w1 ⟨rfl, hw⟩; obtain rfl := hw.symm)
       | ((with_reducible refine (HA'.out _ HSy.out).mono ?_); rintro e w1 ⟨rfl, hw⟩; obtain rfl := hw.symm))
      | (at_builtin; refine wpList_appU rfl (.tmp 34) (.tmp 38) rfl w.heap.size _ L rfl (O.out.alloc _) (wr.heap.size + 1) (some ⟨wr.heap.size, 0, none⟩) 1 1 [_] rfl (SlU.lit1 (Blk.new wr _ _) hd0 hd1 (by omega)) (by simp; omega) (by have := HB.size; simp; omega) ?_; intro v3 w3 O3 hg3 hat3))
     refine ⟨⟨k + 1, _, ((a + b + y) / 4294967296).toNat, by omega, by go_num, by rw [Int.toNat_of_nonneg (by omega)], by omega, by rw [List.length_append, hL]; rfl, HLim.out.app (Lim.one hd0 hd1), by rw [hvx.out, hvy.out]; exact add_step hL Hval.out a0 b0, fun e => by have := ha0 (by omega); have := hb0 (by omega); omega, O3, (HB.alloc HB.size _).grown hg3 (by have := HB.size; simp; omega) (fun k hk => (O.out.lt k hk).1)⟩, by simp [intOf]; omega⟩
    ·have hy0 : y = 0 := by omega
     subst hy0
     have hN : Hid (valL L = valL xs + valL ys) := Lib.hid (by
      have := Hval.out
      rw [Nat.mul_zero, Nat.add_zero, List.take_of_length_le (by rw [Hs.out.1]; omega), List.take_of_length_le (by rw [Ht.out.1]; omega)] at this
      exact this)
     obtain ⟨A1, c1, rfl, hc1, S1⟩ := O.out.sln HLim.out hL
     have HT := Lib.hid (r1trim_calls A1 k c1 L wr S1 (by omega) hc1)
     clear S1
     go_wp2_with (go_at_call 142; (refine HT.out.mono ?_); rintro e w1 ⟨A2, n2, c2, rfl, hc2, S2, hb⟩)
     go_ret
     exact ⟨A2, n2, c2, rfl, hc2, by rw [← hN.out]; exact S2, bl_trans HB hb⟩
end Go.Proofs.YtagojbgmgkkdpaaGreat.Wk

/- Walks: the reference's Cmp, Sub of limbs. -/
namespace Go.Proofs.YtagojbgmgkkdpaaGreat.Wk
open Go.RowKit Go.Proofs.Pl Go.Proofs.YtagojbgmgkkdpaaGreatW.PrintLast
set_option linter.unusedSimpArgs false
set_option linter.unusedVariables false

def cmpNat (p q : Nat) : Int := if p < q then -1 else if q < p then 1 else 0
theorem cmpNat_lt {p q : Nat} (h : p < q) : cmpNat p q = -1 := if_pos h
theorem cmpNat_gt {p q : Nat} (h : q < p) : cmpNat p q = 1 := by unfold cmpNat; rw [if_neg (by omega), if_pos h]
theorem cmpNat_eq {p q : Nat} (h : p = q) : cmpNat p q = 0 := by unfold cmpNat; rw [if_neg (by omega), if_neg (by omega)]
set_option maxRecDepth 100000 in
set_option maxHeartbeats 4000000 in
theorem r1cmp_calls (A : Option Addr) (n c : Nat) (xs : List Int) (B : Option Addr) (m d : Nat) (ys : List Int) (w : World) (hs : SlU w w.heap.size A n xs) (ht : SlU w w.heap.size B m ys) (hn : n ≤ 50000) (hm : m ≤ 50000) (hc : n ≤ c) (hd : m ≤ d) :
  Calls Tryz.prog 160 #[.slice A n c, .slice B m d] w fun e w' => e = .returned (.int .i64 (cmpNat (valL xs) (valL ys))) ∧ Below w.heap.size w w' := by
 have HT := Lib.hid (r1trim_calls A n c xs w hs (by omega) hc)
 have HT' := Lib.hid (fun W h => r1trim_calls B m d ys W h (by omega) hd)
 have lp : (digs (valL xs)).length ≤ 50000 := Nat.le_trans (digs_len (k := n) (by have := valL_lt hs.2.1; rw [hs.1] at this; exact this)) hn
 have lq : (digs (valL ys)).length ≤ 50000 := Nat.le_trans (digs_len (k := m) (by have := valL_lt ht.2.1; rw [ht.1] at this; exact this)) hm
 generalize valL xs = p at HT lp ⊢
 generalize valL ys = q at HT' lq ⊢
 have hcase : ∀ n1 n2, (digs p).length = n1 → (digs q).length = n2 → n1 ≤ 50000 ∧ n2 ≤ 50000 ∧ (n1 < n2 → cmpNat p q = -1) ∧ (n2 < n1 → cmpNat p q = 1) := by
  rintro n1 n2 rfl rfl
  exact ⟨lp, lq, fun h => cmpNat_lt (digs_short h), fun h => cmpNat_gt (digs_short h)⟩
 clear lp lq hs
 go_enter Tryz.func160, Tryz.ntmps160
 go_wp2_with (first
  | (go_at_call 142; (with_reducible refine HT.out.mono ?_); rintro e w1 ⟨A1, n1, c1, rfl, hc1, S1, HB1⟩; have S1 := Lib.hid S1)
  | (go_at_call 142; (with_reducible refine (HT'.out w1 (ht.on HB1)).mono ?_); rintro e w2 ⟨A2, n2, c2, rfl, hc2, S2, hb⟩; have HB2 := bl_trans HB1 hb; have S1 := Lib.hid (S1.out.on hb); have S2 := Lib.hid S2; clear hb; have HC := Lib.hid (hcase n1 n2 S1.out.1 S2.out.1); have hb1 := HC.out.1; have hb2 := HC.out.2.1; rcases Nat.lt_trichotomy n1 n2 with hlt | hlt | hlt))
 ·go_ret
  exact ⟨by rw [HC.out.2.2.1 hlt]; rfl, HB2⟩
 rotate_left
 ·go_ret
  exact ⟨by rw [HC.out.2.2.2 hlt]; rfl, HB2⟩
 have hn1 := HC.out.1
 subst hlt
 clear HC hcase ht HT HT'
 go_loopw [7] (fun i wr => ∃ k : Nat, k ≤ n1 ∧ i = .int .i64 ((k : Int) - 1) ∧ (digs p).drop k = (digs q).drop k ∧ Below w2.heap.size w2 wr) (fun i _ => (intOf i + 1).toNat)
 case atStart => exact ⟨n1, Nat.le_refl _, by go_num, by rw [List.drop_eq_nil_of_le (by rw [S1.out.1]; exact Nat.le_refl _), List.drop_eq_nil_of_le (by rw [S2.out.1]; exact Nat.le_refl _)], Below.refl _ _⟩
 case round =>
  obtain ⟨k, hk, rfl, hdr, hbw⟩ := hrel
  have Hdr := Lib.hid hdr
  clear hdr
  rcases Nat.eq_zero_or_pos k with h0 | h0
  ·subst h0
   have hpq : Hid (p = q) := Lib.hid (by
    have := Hdr.out
    rw [List.drop_zero, List.drop_zero] at this
    rw [← valL_digs p, ← valL_digs q, this])
   go_wp2
   go_ret
   exact ⟨by rw [cmpNat_eq hpq.out]; rfl, bl_trans HB2 hbw⟩
  ·obtain ⟨j, rfl⟩ : ∃ j, k = j + 1 := ⟨k - 1, by omega⟩
   obtain ⟨b, off, x, E1, hbB, hx, hxl, X0⟩ := S1.out.at_ (k := j) (by omega)
   obtain ⟨b', off', y, E2, hbB', hy, hyl, Y0⟩ := S2.out.at_ (k := j) (by omega)
   have Hx := Lib.hid hx
   have Hy := Lib.hid hy
   have hlen := S1.out.1.trans S2.out.1.symm
   have hcmp : Hid (∀ (h : x < y ∨ y < x), cmpNat p q = if x < y then -1 else 1) := Lib.hid (by
    intro h
    by_cases hxy : x < y
    ·rw [if_pos hxy]
     refine cmpNat_lt ?_
     have := valL_cmp (digs_lim p) (digs_lim q) hlen Hx.out Hy.out Hdr.out hxy
     rwa [valL_digs, valL_digs] at this
    ·rw [if_neg hxy]
     refine cmpNat_gt ?_
     have := valL_cmp (digs_lim q) (digs_lim p) hlen.symm Hy.out Hx.out Hdr.out.symm (by omega)
     rwa [valL_digs, valL_digs] at this)
   subst E1 E2
   have hl1 : b < wr.heap.size := Nat.lt_of_lt_of_le hbB hbw.size
   have hl2 : b' < wr.heap.size := Nat.lt_of_lt_of_le hbB' hbw.size
   have X := (hbw.cell (p := ⟨b, off + j, none⟩) hbB).trans X0
   have Y := (hbw.cell (p := ⟨b', off' + j, none⟩) hbB').trans Y0
   have hjn : j < n1 := by omega
   have ej : (((j + 1 : Nat) : Int) - 1) = j := by omega
   rw [ej]
   clear hx hy hlen X0 Y0 ej
   go_wp2_with fail
   refine start_ (n := 9) (S := fun w' => w'.cell? ⟨b, off + j, none⟩ = some (.int .u32 x) ∧ w'.cell? ⟨b', off' + j, none⟩ = some (.int .u32 y)) (ds := []) (bq 9 0) (by kernel_rfl) rfl rfl ⟨X, Y⟩ (fun hHeld => ?_)
   refine pure_ (i := 0) (N := some 29) (v := ?_) (a' := ?_) (bq 9 1) rfl rfl (by kernel_rfl) (fun _ _ _ h => h) (Or.inl ⟨by rfl, ?_⟩) ?_ ?_
   rotate_left
   ·intro w'
    go_simp
    with_reducible rfl
   rotate_left
   ·simp only [Act.put, pA, pB, pC]
    rfl
   refine pure_ (i := 1) (N := some 30) (v := ?_) (a' := ?_) (bq 9 3) rfl rfl (by kernel_rfl) (fun _ _ _ h => h) (Or.inl ⟨by rfl, ?_⟩) ?_ ?_
   rotate_left
   ·intro w'
    go_simp
    with_reducible rfl
   rotate_left
   ·simp only [Act.put, pA, pB, pC]
    rfl
   refine pure_ (i := 2) (N := some 31) (v := ?_) (a' := ?_) (bq 9 7) rfl rfl (by kernel_rfl) (fun _ _ _ h => h) (Or.inl ⟨by rfl, ?_⟩) ?_ ?_
   rotate_left
   ·intro w'
    go_simp
    with_reducible rfl
   rotate_left
   ·simp only [Act.put, pA, pB, pC]
    rfl
   refine take_ (i := 3) (N := some 32) (v := ?_) (a' := ?_) (bq 9 15) rfl rfl (by kernel_rfl) (fun _ _ _ h => h) (Or.inl ⟨by rfl, ?_⟩) hHeld ?_ ?_
   rotate_left
   ·rintro w' ⟨s0_, s1_⟩
    go_simp
    with_reducible rfl
   rotate_left
   ·simp only [Act.put, pA, pB, pC]
    rfl
   refine pure_ (i := 4) (N := some 33) (v := ?_) (a' := ?_) (bq 9 31) rfl rfl (by kernel_rfl) (fun _ _ _ h => h) (Or.inl ⟨by rfl, ?_⟩) ?_ ?_
   rotate_left
   ·intro w'
    go_simp
    with_reducible rfl
   rotate_left
   ·simp only [Act.put, pA, pB, pC]
    rfl
   refine pure_ (i := 5) (N := some 34) (v := ?_) (a' := ?_) (bq 9 63) rfl rfl (by kernel_rfl) (fun _ _ _ h => h) (Or.inl ⟨by rfl, ?_⟩) ?_ ?_
   rotate_left
   ·intro w'
    go_simp
    with_reducible rfl
   rotate_left
   ·simp only [Act.put, pA, pB, pC]
    rfl
   refine pure_ (i := 6) (N := some 35) (v := ?_) (a' := ?_) (bq 9 127) rfl rfl (by kernel_rfl) (fun _ _ _ h => h) (Or.inl ⟨by rfl, ?_⟩) ?_ ?_
   rotate_left
   ·intro w'
    go_simp
    with_reducible rfl
   rotate_left
   ·simp only [Act.put, pA, pB, pC]
    rfl
   refine take_ (i := 7) (N := some 36) (v := ?_) (a' := ?_) (bq 9 255) rfl rfl (by kernel_rfl) (fun _ _ _ h => h) (Or.inl ⟨by rfl, ?_⟩) hHeld ?_ ?_
   rotate_left
   ·rintro w' ⟨s0_, s1_⟩
    go_simp
    with_reducible rfl
   rotate_left
   ·simp only [Act.put, pA, pB, pC]
    rfl
   refine pure_ (i := 8) (N := some 37) (v := ?_) (a' := ?_) (bq 9 511) rfl rfl (by kernel_rfl) (fun _ _ _ h => h) (Or.inl ⟨by rfl, ?_⟩) ?_ ?_
   rotate_left
   ·intro w'
    go_simp
    with_reducible rfl
   rotate_left
   ·simp only [Act.put, pA, pB, pC]
    rfl
   refine done_ (by kernel_rfl) ?_
   clear hHeld
   by_cases hxy : x < y
   ·go_wp2_with fail
    go_ret
    exact ⟨by rw [hcmp.out (.inl hxy), if_pos hxy]; rfl, bl_trans HB2 (bl_drew hbw)⟩
   ·go_wp2_with fail
    refine start_ (n := 9) (S := fun w' => w'.cell? ⟨b, off + j, none⟩ = some (.int .u32 x) ∧ w'.cell? ⟨b', off' + j, none⟩ = some (.int .u32 y)) (ds := []) (bq 9 0) (by kernel_rfl) rfl rfl ⟨X, Y⟩ (fun hHeld => ?_)
    refine pure_ (i := 0) (N := some 38) (v := ?_) (a' := ?_) (bq 9 1) rfl rfl (by kernel_rfl) (fun _ _ _ h => h) (Or.inl ⟨by rfl, ?_⟩) ?_ ?_
    rotate_left
    ·intro w'
     go_simp
     with_reducible rfl
    rotate_left
    ·simp only [Act.put, pA, pB, pC]
     rfl
    refine pure_ (i := 1) (N := some 39) (v := ?_) (a' := ?_) (bq 9 3) rfl rfl (by kernel_rfl) (fun _ _ _ h => h) (Or.inl ⟨by rfl, ?_⟩) ?_ ?_
    rotate_left
    ·intro w'
     go_simp
     with_reducible rfl
    rotate_left
    ·simp only [Act.put, pA, pB, pC]
     rfl
    refine pure_ (i := 2) (N := some 40) (v := ?_) (a' := ?_) (bq 9 7) rfl rfl (by kernel_rfl) (fun _ _ _ h => h) (Or.inl ⟨by rfl, ?_⟩) ?_ ?_
    rotate_left
    ·intro w'
     go_simp
     with_reducible rfl
    rotate_left
    ·simp only [Act.put, pA, pB, pC]
     rfl
    refine take_ (i := 3) (N := some 41) (v := ?_) (a' := ?_) (bq 9 15) rfl rfl (by kernel_rfl) (fun _ _ _ h => h) (Or.inl ⟨by rfl, ?_⟩) hHeld ?_ ?_
    rotate_left
    ·rintro w' ⟨s0_, s1_⟩
     go_simp
     with_reducible rfl
    rotate_left
    ·simp only [Act.put, pA, pB, pC]
     rfl
    refine pure_ (i := 4) (N := some 42) (v := ?_) (a' := ?_) (bq 9 31) rfl rfl (by kernel_rfl) (fun _ _ _ h => h) (Or.inl ⟨by rfl, ?_⟩) ?_ ?_
    rotate_left
    ·intro w'
     go_simp
     with_reducible rfl
    rotate_left
    ·simp only [Act.put, pA, pB, pC]
     rfl
    refine pure_ (i := 5) (N := some 43) (v := ?_) (a' := ?_) (bq 9 63) rfl rfl (by kernel_rfl) (fun _ _ _ h => h) (Or.inl ⟨by rfl, ?_⟩) ?_ ?_
    rotate_left
    ·intro w'
     go_simp
     with_reducible rfl
    rotate_left
    ·simp only [Act.put, pA, pB, pC]
     rfl
    refine pure_ (i := 6) (N := some 44) (v := ?_) (a' := ?_) (bq 9 127) rfl rfl (by kernel_rfl) (fun _ _ _ h => h) (Or.inl ⟨by rfl, ?_⟩) ?_ ?_
    rotate_left
    ·intro w'
     go_simp
     with_reducible rfl
    rotate_left
    ·simp only [Act.put, pA, pB, pC]
     rfl
    refine take_ (i := 7) (N := some 45) (v := ?_) (a' := ?_) (bq 9 255) rfl rfl (by kernel_rfl) (fun _ _ _ h => h) (Or.inl ⟨by rfl, ?_⟩) hHeld ?_ ?_
    rotate_left
    ·rintro w' ⟨s0_, s1_⟩
     go_simp
     with_reducible rfl
    rotate_left
    ·simp only [Act.put, pA, pB, pC]
     rfl
    refine pure_ (i := 8) (N := some 46) (v := ?_) (a' := ?_) (bq 9 511) rfl rfl (by kernel_rfl) (fun _ _ _ h => h) (Or.inl ⟨by rfl, ?_⟩) ?_ ?_
    rotate_left
    ·intro w'
     go_simp
     with_reducible rfl
    rotate_left
    ·simp only [Act.put, pA, pB, pC]
     rfl
    refine done_ (by kernel_rfl) ?_
    clear hHeld
    by_cases hyx : y < x
    ·go_wp2_with fail
     go_ret
     exact ⟨by rw [hcmp.out (.inr hyx), if_neg (show ¬ x < y by omega)]; rfl, bl_trans HB2 (bl_drew (bl_drew hbw))⟩
    ·have hxy' : Hid (x = y) := Lib.hid (by omega)
     go_wp2_with fail
     go_roundw
     case rel => exact ⟨j, by omega, by go_num, by rw [List.drop_eq_getElem?_toList_append, List.drop_eq_getElem?_toList_append (l := digs q), Hx.out, Hy.out, hxy'.out, Hdr.out], bl_drew (bl_drew hbw)⟩
     case measure => simp [intOf]

theorem sub_step {L : List Int} {k X Y y : Nat} {a b : Int} (hL : L.length = k) (h : valL L + Y = X + 4294967296 ^ k * y) (a0 : 0 ≤ a) (a1 : a < 4294967296) (b0 : 0 ≤ b) (b1 : b < 4294967296) (hy : y ≤ 1) :
  valL (L ++ [(4294967296 + a - b - y) % 4294967296]) + (Y + 4294967296 ^ k * b.toNat) = (X + 4294967296 ^ k * a.toNat) + 4294967296 ^ (k + 1) * (1 - (4294967296 + a - b - y) / 4294967296).toNat := by
 rw [valL_snoc, hL, Nat.pow_succ, Nat.mul_assoc]
 have e : ((4294967296 + a - b - y) % 4294967296).toNat + b.toNat + y = a.toNat + 4294967296 * (1 - (4294967296 + a - b - y) / 4294967296).toNat := by omega
 have e2 := congrArg (4294967296 ^ k * ·) e
 simp only [Nat.mul_add] at e2
 generalize 4294967296 ^ k * a.toNat = p at e2 ⊢
 generalize 4294967296 ^ k * b.toNat = q at e2 ⊢
 generalize 4294967296 ^ k * y = r at h e2 ⊢
 generalize 4294967296 ^ k * ((4294967296 + a - b - y) % 4294967296).toNat = s at e2 ⊢
 generalize 4294967296 ^ k * (4294967296 * (1 - (4294967296 + a - b - y) / 4294967296).toNat) = t at e2 ⊢
 omega
theorem take_val (l : List Int) (k : Nat) (h : valL l < 4294967296 ^ k) : valL (l.take k) = valL l := by
 have e : valL l = valL (l.take k) + 4294967296 ^ (l.take k).length * valL (l.drop k) := by
  conv => lhs; rw [← List.take_append_drop k l]
  exact valL_app _ _
 rcases Nat.lt_or_ge k l.length with hk | hk
 ·rw [List.length_take, Nat.min_eq_left (by omega)] at e
  rcases Nat.eq_zero_or_pos (valL (l.drop k)) with h0 | h0
  ·rw [h0, Nat.mul_zero, Nat.add_zero] at e
   exact e.symm
  ·have := Nat.mul_le_mul_left (4294967296 ^ k) h0
   omega
 ·rw [List.take_of_length_le hk]
/-- what Sub leaves: the difference, or that there is none -/
def RetS (w : World) (p q : Nat) (e : Ending) (w' : World) : Prop := ∃ A n c, e = .returned (.tuple #[.slice A n c, .bool (decide (q ≤ p))]) ∧ n ≤ c ∧ SlU w' w'.heap.size A n (digs (p - q)) ∧ Below w.heap.size w w'
set_option maxRecDepth 100000 in
set_option maxHeartbeats 4000000 in
theorem r1sub_calls (A : Option Addr) (n c : Nat) (xs : List Int) (B : Option Addr) (m d : Nat) (ys : List Int) (w : World) (hs : SlU w w.heap.size A n xs) (ht : SlU w w.heap.size B m ys) (hn : n ≤ 50000) (hm : m ≤ 50000) (hc : n ≤ c) (hd : m ≤ d) :
  Calls Tryz.prog 146 #[.slice A n c, .slice B m d] w (RetS w (valL xs) (valL ys)) := by
 have HC := Lib.hid (r1cmp_calls A n c xs B m d ys w hs ht hn hm hc hd)
 by_cases hlt : valL xs < valL ys
 ·have h0 : digs (valL xs - valL ys) = [] := by rw [show valL xs - valL ys = 0 by omega]; exact digs_zero
  have hdec : decide (valL ys ≤ valL xs) = false := decide_eq_false (by omega)
  unfold RetS
  rw [cmpNat_lt hlt] at HC
  rw [h0, hdec]
  clear hlt h0 hdec hs ht
  go_enter Tryz.func146, Tryz.ntmps146
  go_wp2_with (go_at_call 160; (refine HC.out.mono ?_); rintro e w1 ⟨rfl, HB1⟩)
  go_ret2
  exact ⟨none, 0, 0, rfl, Nat.le_refl _, SlU.nil _ _ _, HB1⟩
 ·have hge : ∃ r : Int, 0 ≤ r ∧ cmpNat (valL xs) (valL ys) = r := ⟨_, by unfold cmpNat; rw [if_neg hlt]; split <;> decide, rfl⟩
  obtain ⟨r, hr0, hr⟩ := hge
  rw [hr] at HC
  have hr1 : ¬ r < 0 := by omega
  have Hlt := Lib.hid hlt
  clear hr hr0 hlt
  go_enter Tryz.func146, Tryz.ntmps146
  go_wp2_with (go_at_call 160; (refine HC.out.mono ?_); rintro e w1 ⟨rfl, HB1⟩)
  go_loopw [6, 7, 8, 9] (fun v cy i _ wr => ∃ (k : Nat) (L : List Int) (y : Nat), k ≤ n ∧ i = .int .i64 k ∧ cy = .int .u64 y ∧ y ≤ 1 ∧ L.length = k ∧ Lim L ∧ (valL L + valL (ys.take k) = valL (xs.take k) + 4294967296 ^ k * y) ∧ OwnU wr w.heap.size v L ∧ Below w.heap.size w wr) (fun _ _ i _ _ => n - (intOf i).toNat)
  case atStart => exact ⟨0, [], 0, by omega, rfl, rfl, by omega, rfl, Lim.nil, by simp [valL], OwnU.nil _ _, HB1⟩
  case round =>
   obtain ⟨k, L, y, hk, rfl, rfl, hy, hL, hLim, hval, O, HB⟩ := hrel
   have Hval := Lib.hid hval
   have HLim := Lib.hid hLim
   have O := Lib.hid O
   have HSx := Lib.hid (hs.below HB |>.more HB.size)
   have HSy := Lib.hid (ht.below HB |>.more HB.size)
   have HA := Lib.hid (fun W h => r1at_calls A n c k xs W h (by omega) (by omega))
   have HA' := Lib.hid (fun W h => r1at_calls B m d k ys W h (by omega) (by omega))
   have hvx := Lib.hid (valL_limb (l := xs) k)
   have hvy := Lib.hid (valL_limb (l := ys) k)
   obtain ⟨a0, a1⟩ := limb_lim hs.2.1 k
   obtain ⟨b0, b1⟩ := limb_lim ht.2.1 k
   have Hs := Lib.hid hs
   have Ht := Lib.hid ht
   clear hval hLim hs ht HC
   by_cases h1 : k < n
   ·generalize limb xs k = a at HA hvx a0 a1
    generalize limb ys k = b at HA' hvy b0 b1
    have hd0 : 0 ≤ (4294967296 + a - b - y) % 4294967296 := by omega
    have hd1 : (4294967296 + a - b - y) % 4294967296 < 4294967296 := by omega
    go_wp2_with (first
     | (go_at_call 145; first
      | ((with_reducible refine (HA.out _ HSx.out).mono ?_); rintro e w1 ⟨rfl, hw⟩; obtain rfl := hw.symm)
      | ((with_reducible refine (HA'.out _ HSy.out).mono ?_); rintro e w1 ⟨rfl, hw⟩; obtain rfl := hw.symm))
     | (at_builtin; refine wpList_appU rfl (.tmp 30) (.tmp 34) rfl w.heap.size _ L rfl (O.out.alloc _) (wr.heap.size + 1) (some ⟨wr.heap.size, 0, none⟩) 1 1 [_] rfl (SlU.lit1 (Blk.new wr _ _) hd0 hd1 (by omega)) (by simp; omega) (by have := HB.size; simp; omega) ?_; intro v3 w3 O3 hg3 hat3))
    refine ⟨⟨k + 1, _, (1 - (4294967296 + a - b - y) / 4294967296).toNat, by omega, by go_num, by rw [Int.toNat_of_nonneg (by omega)], by omega, by rw [List.length_append, hL]; rfl, HLim.out.app (Lim.one hd0 hd1), by rw [hvx.out, hvy.out]; exact sub_step hL Hval.out a0 a1 b0 b1 hy, O3, (HB.alloc HB.size _).grown hg3 (by have := HB.size; simp; omega) (fun k hk => (O.out.lt k hk).1)⟩, by simp [intOf]; omega⟩
   ·have hkn : k = n := by omega
    subst hkn
    have hN : Hid (valL L = valL xs - valL ys) := Lib.hid (by
     have h := Hval.out
     have hx := valL_lt Hs.out.2.1
     have hl := valL_lt HLim.out
     have hge := Hlt.out
     rw [Hs.out.1] at hx
     rw [hL] at hl
     rw [List.take_of_length_le (show xs.length ≤ k by rw [Hs.out.1]; exact Nat.le_refl _), take_val ys k (by omega)] at h
     rcases Nat.eq_zero_or_pos y with h0 | h0
     ·subst h0
      omega
     ·obtain rfl : y = 1 := by omega
      omega)
    have hdec : Hid (decide (valL ys ≤ valL xs) = true) := Lib.hid (decide_eq_true (by have := Hlt.out; omega))
    obtain ⟨A1, c1, rfl, hc1, S1⟩ := O.out.sln HLim.out hL
    have HT := Lib.hid (r1trim_calls A1 k c1 L wr S1 (by omega) hc1)
    clear S1 HA HA' hvx hvy a0 a1 b0 b1
    go_wp2_with (go_at_call 142; (refine HT.out.mono ?_); rintro e w1 ⟨A2, n2, c2, rfl, hc2, S2, hb⟩)
    go_ret2
    unfold RetS
    rw [hdec.out]
    exact ⟨A2, n2, c2, rfl, hc2, by rw [← hN.out]; exact S2, bl_trans HB hb⟩
end Go.Proofs.YtagojbgmgkkdpaaGreat.Wk

/- Walks: the reference's Mul of limbs. -/
namespace Go.Proofs.YtagojbgmgkkdpaaGreat.Wk
open Go.RowKit Go.Proofs.Pl Go.Proofs.YtagojbgmgkkdpaaGreatW.PrintLast
set_option linter.unusedSimpArgs false
set_option linter.unusedVariables false

theorem OwnU.lit {w : World} {g base : Nat} {x : Int} (h : Blk w g 117 #[.int .u32 x]) (hb : base ≤ g) : OwnU w base (.slice (some ⟨g, 0, none⟩) 1 1) [x] :=
 ⟨rfl, .inr ⟨g, 1, _, rfl, hb, h, Nat.le_refl _, by simp [maxLen], rfl, rfl⟩⟩
theorem valL_drop {l : List Int} {k : Nat} {d : Int} (h : l[k]? = some d) : valL (l.drop k) = d.toNat + 4294967296 * valL (l.drop (k + 1)) := by
 have hk : k < l.length := (List.getElem?_eq_some_iff.1 h).1
 rw [List.drop_eq_getElem_cons hk]
 have : l[k] = d := (List.getElem?_eq_some_iff.1 h).2
 rw [this]
 rfl
theorem mul_wrap {x y : Int} {r : Nat} (x0 : 0 ≤ x) (x1 : x < 4294967296) (y0 : 0 ≤ y) (y1 : y < 4294967296) (hr : r < 4294967296) (h0 : 0 ≤ x * y) (h1 : x * y ≤ 4294967295 * 4294967295) :
  IntKind.u64.wrap (IntKind.u64.wrap (IntKind.u64.wrap x * IntKind.u64.wrap y) + (r : Int)) = x * y + r := by
 simp only [IntKind.wrap_u64]
 rw [show x % 18446744073709551616 = x by omega, show y % 18446744073709551616 = y by omega]
 generalize x * y = p at h0 h1 ⊢
 omega
theorem mul_step {L : List Int} {k X r : Nat} {x y : Int} (hL : L.length = k) (h : valL L + 4294967296 ^ k * r = X * y.toNat) (x0 : 0 ≤ x) (y0 : 0 ≤ y) (h0 : 0 ≤ x * y) :
  valL (L ++ [(x * y + r) % 4294967296]) + 4294967296 ^ (k + 1) * ((x * y + r) / 4294967296).toNat = (X + 4294967296 ^ k * x.toNat) * y.toNat := by
 rw [valL_snoc, hL, Nat.pow_succ, Nat.mul_assoc, Nat.add_assoc, ← Nat.mul_add, Nat.add_mul, Nat.mul_assoc]
 have e : (x * y).toNat = x.toNat * y.toNat := by rw [Int.toNat_mul x0 y0]
 rw [← e]
 generalize x * y = z at h0 ⊢
 have e : ((z + r) % 4294967296).toNat + 4294967296 * ((z + r) / 4294967296).toNat = z.toNat + r := by omega
 rw [e, Nat.mul_add]
 generalize 4294967296 ^ k * z.toNat = p
 generalize 4294967296 ^ k * r = q at h ⊢
 omega
set_option maxRecDepth 100000 in
set_option maxHeartbeats 4000000 in
theorem r1mul_calls (A : Option Addr) (n c : Nat) (xs : List Int) (B : Option Addr) (m d : Nat) (ys : List Int) (w : World) (hs : SlU w w.heap.size A n xs) (ht : SlU w w.heap.size B m ys) (hn : n ≤ 10000) (hm : m ≤ 10000) (hc : n ≤ c) (hd : m ≤ d) :
  Calls Tryz.prog 143 #[.slice A n c, .slice B m d] w (RetU w (valL xs * valL ys)) := by
 go_enter Tryz.func143, Tryz.ntmps143
 go_wp2
 go_loopw [5, 6, 7, 8, 9, 10, 11] (fun out i _ _ _ _ _ wr => ∃ (k : Nat) (A1 : Option Addr) (n1 c1 : Nat), k ≤ m ∧ i = .int .i64 ((k : Int) - 1) ∧ out = .slice A1 n1 c1 ∧ n1 ≤ c1 ∧ SlU wr wr.heap.size A1 n1 (digs (valL xs * valL (ys.drop k))) ∧ Below w.heap.size w wr) (fun _ i _ _ _ _ _ _ => (intOf i + 1).toNat)
 case atStart => exact ⟨m, none, 0, 0, Nat.le_refl _, by go_num, rfl, Nat.le_refl _, by rw [List.drop_eq_nil_of_le (by rw [ht.1]; exact Nat.le_refl _)]; simp only [valL, Nat.mul_zero, digs_zero]; exact SlU.nil _ _ _, Below.refl _ _⟩
 case round =>
  obtain ⟨k, A1, n1, c1, hk, rfl, rfl, hc1, S1, HB⟩ := hrel
  have S1 := Lib.hid S1
  have Hs := Lib.hid hs
  have Ht := Lib.hid ht
  have hl1 : n1 ≤ 20000 := by
   rw [← S1.out.1]
   refine Nat.le_trans (digs_len (k := n + m) ?_) (by omega)
   have h1 := valL_lt hs.2.1
   have h2 := valL_lt (ht.2.1.drop k)
   rw [hs.1] at h1
   rw [List.length_drop, ht.1] at h2
   have h3 : 4294967296 ^ (m - k) ≤ 4294967296 ^ m := Nat.pow_le_pow_right (by decide) (by omega)
   rw [Nat.pow_add]
   exact Nat.mul_lt_mul'' h1 (by omega)
  rcases Nat.eq_zero_or_pos k with h0 | h0
  ·subst h0
   have hN : Hid (valL xs * valL (ys.drop 0) = valL xs * valL ys) := Lib.hid (by rw [List.drop_zero])
   have HT := Lib.hid (r1trim_calls A1 n1 c1 _ wr S1.out (by omega) hc1)
   rw [valL_digs, hN.out] at HT
   clear hs ht
   go_wp2_with (go_at_call 142; (refine HT.out.mono ?_); rintro e w1 ⟨A2, n2, c2, rfl, hc2, S2, hb⟩)
   go_ret
   exact ⟨A2, n2, c2, rfl, hc2, S2, bl_trans HB hb⟩
  ·obtain ⟨j, rfl⟩ : ∃ j, k = j + 1 := ⟨k - 1, by omega⟩
   obtain ⟨b, off, y, rfl, hbB, hy, hyl, Y0⟩ := ht.at_ (k := j) (by omega)
   obtain ⟨y0, y1⟩ := hyl
   have hjm : j < m := by omega
   have hvd := Lib.hid (valL_drop hy)
   have ej : (((j + 1 : Nat) : Int) - 1) = j := by omega
   rw [ej]
   clear hs ht hy ej
   generalize hP : valL xs * valL (ys.drop (j + 1)) = P at S1
   have hP := Lib.hid hP
   go_wp2_with (at_builtin; refine wpList_appU rfl (.tmp 20) (.tmp 21) rfl w.heap.size _ [0] rfl (OwnU.lit (Blk.new wr _ _) HB.size) wr.heap.size A1 n1 c1 (digs P) rfl (S1.out.below (bl_alloc (Below.refl _ _) _)) (by simp; omega) (by have := HB.size; simp; omega) ?_; intro v3 w3 O3 hg3 hat3)
   have HB3 : Below w.heap.size w w3 := (HB.alloc HB.size _).grown hg3 (by have := HB.size; simp; omega) (fun k hk => by cases hk; exact HB.size)
   obtain ⟨A3, c3, rfl, hc3, S3⟩ := O3.sln (n := n1 + 1) (Lim.app (Lim.one (by decide) (by decide)) (digs_lim P)) (by rw [List.length_append, S1.out.1]; simp; omega)
   have S3 := Lib.hid S3
   have hv3 : Hid (valL ([0] ++ digs P) = 4294967296 * P) := Lib.hid (by rw [List.singleton_append]; simp only [valL, valL_digs]; omega)
   clear O3 hg3 hat3 S1
   go_loopw [8, 9, 10, 11] (fun v cy i _ wi => ∃ (k : Nat) (L : List Int) (r : Nat), k ≤ n ∧ i = .int .i64 k ∧ cy = .int .u64 r ∧ r < 4294967296 ∧ L.length = k ∧ Lim L ∧ (valL L + 4294967296 ^ k * r = valL (xs.take k) * y.toNat) ∧ OwnU wi w3.heap.size v L ∧ Below w3.heap.size w3 wi) (fun _ _ i _ _ => n - (intOf i).toNat)
   case atStart => exact ⟨0, [], 0, by omega, rfl, rfl, by omega, rfl, Lim.nil, by simp [valL], OwnU.nil _ _, Below.refl _ _⟩
   case round =>
    obtain ⟨k, L, r, hkn, rfl, rfl, hr, hL, hLim, hval, O, hbw⟩ := hrel
    have Hval := Lib.hid hval
    have HLim := Lib.hid hLim
    have O := Lib.hid O
    clear hval hLim
    have HBi := bl_trans HB3 hbw
    have Y := (HBi.cell (p := ⟨b, off + j, none⟩) hbB).trans Y0
    by_cases hlt : k < n
    ·obtain ⟨b', off', x, rfl, hbB', hx, ⟨x0, x1⟩, X0⟩ := Hs.out.at_ hlt
     have X := (HBi.cell (p := ⟨b', off' + k, none⟩) hbB').trans X0
     have hvx := Lib.hid (valL_take_succ hx)
     have hxy0 : 0 ≤ x * y := Int.mul_nonneg x0 y0
     have hxy1 : x * y ≤ 4294967295 * 4294967295 := Int.mul_le_mul (by omega) (by omega) y0 (by omega)
     clear hx X0
     go_wp2_with fail
     refine start_ (n := 14) (S := fun w' => w'.cell? ⟨b', off' + k, none⟩ = some (.int .u32 x) ∧ w'.cell? ⟨b, off + j, none⟩ = some (.int .u32 y)) (ds := []) (bq 14 0) (by kernel_rfl) rfl rfl ⟨X, Y⟩ (fun hHeld => ?_)
     refine pure_ (i := 0) (N := some 30) (v := ?_) (a' := ?_) (bq 14 1) rfl rfl (by kernel_rfl) (fun _ _ _ h => h) (Or.inl ⟨by rfl, ?_⟩) ?_ ?_
     rotate_left
     ·intro w'
      go_simp
      with_reducible rfl
     rotate_left
     ·simp only [Act.put, pA, pB, pC]
      rfl
     refine pure_ (i := 1) (N := some 31) (v := ?_) (a' := ?_) (bq 14 3) rfl rfl (by kernel_rfl) (fun _ _ _ h => h) (Or.inl ⟨by rfl, ?_⟩) ?_ ?_
     rotate_left
     ·intro w'
      go_simp
      with_reducible rfl
     rotate_left
     ·simp only [Act.put, pA, pB, pC]
      rfl
     refine pure_ (i := 2) (N := some 32) (v := ?_) (a' := ?_) (bq 14 7) rfl rfl (by kernel_rfl) (fun _ _ _ h => h) (Or.inl ⟨by rfl, ?_⟩) ?_ ?_
     rotate_left
     ·intro w'
      go_simp
      with_reducible rfl
     rotate_left
     ·simp only [Act.put, pA, pB, pC]
      rfl
     refine take_ (i := 3) (N := some 33) (v := ?_) (a' := ?_) (bq 14 15) rfl rfl (by kernel_rfl) (fun _ _ _ h => h) (Or.inl ⟨by rfl, ?_⟩) hHeld ?_ ?_
     rotate_left
     ·rintro w' ⟨s0_, s1_⟩
      go_simp
      with_reducible rfl
     rotate_left
     ·simp only [Act.put, pA, pB, pC]
      rfl
     refine pure_ (i := 4) (N := some 34) (v := ?_) (a' := ?_) (bq 14 31) rfl rfl (by kernel_rfl) (fun _ _ _ h => h) (Or.inl ⟨by rfl, ?_⟩) ?_ ?_
     rotate_left
     ·intro w'
      go_simp
      with_reducible rfl
     rotate_left
     ·simp only [Act.put, pA, pB, pC]
      rfl
     refine pure_ (i := 5) (N := some 35) (v := ?_) (a' := ?_) (bq 14 63) rfl rfl (by kernel_rfl) (fun _ _ _ h => h) (Or.inl ⟨by rfl, ?_⟩) ?_ ?_
     rotate_left
     ·intro w'
      go_simp
      with_reducible rfl
     rotate_left
     ·simp only [Act.put, pA, pB, pC]
      rfl
     refine pure_ (i := 6) (N := some 36) (v := ?_) (a' := ?_) (bq 14 127) rfl rfl (by kernel_rfl) (fun _ _ _ h => h) (Or.inl ⟨by rfl, ?_⟩) ?_ ?_
     rotate_left
     ·intro w'
      go_simp
      with_reducible rfl
     rotate_left
     ·simp only [Act.put, pA, pB, pC]
      rfl
     refine pure_ (i := 7) (N := some 37) (v := ?_) (a' := ?_) (bq 14 255) rfl rfl (by kernel_rfl) (fun _ _ _ h => h) (Or.inl ⟨by rfl, ?_⟩) ?_ ?_
     rotate_left
     ·intro w'
      go_simp
      with_reducible rfl
     rotate_left
     ·simp only [Act.put, pA, pB, pC]
      rfl
     refine take_ (i := 8) (N := some 38) (v := ?_) (a' := ?_) (bq 14 511) rfl rfl (by kernel_rfl) (fun _ _ _ h => h) (Or.inl ⟨by rfl, ?_⟩) hHeld ?_ ?_
     rotate_left
     ·rintro w' ⟨s0_, s1_⟩
      go_simp
      with_reducible rfl
     rotate_left
     ·simp only [Act.put, pA, pB, pC]
      rfl
     refine pure_ (i := 9) (N := some 39) (v := ?_) (a' := ?_) (bq 14 1023) rfl rfl (by kernel_rfl) (fun _ _ _ h => h) (Or.inl ⟨by rfl, ?_⟩) ?_ ?_
     rotate_left
     ·intro w'
      go_simp
      with_reducible rfl
     rotate_left
     ·simp only [Act.put, pA, pB, pC]
      rfl
     refine pure_ (i := 10) (N := some 40) (v := ?_) (a' := ?_) (bq 14 2047) rfl rfl (by kernel_rfl) (fun _ _ _ h => h) (Or.inl ⟨by rfl, ?_⟩) ?_ ?_
     rotate_left
     ·intro w'
      go_simp
      with_reducible rfl
     rotate_left
     ·simp only [Act.put, pA, pB, pC]
      rfl
     refine pure_ (i := 11) (N := some 41) (v := ?_) (a' := ?_) (bq 14 4095) rfl rfl (by kernel_rfl) (fun _ _ _ h => h) (Or.inl ⟨by rfl, ?_⟩) ?_ ?_
     rotate_left
     ·intro w'
      go_simp
      with_reducible rfl
     rotate_left
     ·simp only [Act.put, pA, pB, pC]
      rfl
     refine pure_ (i := 12) (N := some 42) (v := ?_) (a' := ?_) (bq 14 8191) rfl rfl (by kernel_rfl) (fun _ _ _ h => h) (Or.inl ⟨by rfl, ?_⟩) ?_ ?_
     rotate_left
     ·intro w'
      go_simp
      with_reducible rfl
     rotate_left
     ·simp only [Act.put, pA, pB, pC]
      rfl
     refine pure_ (i := 13) (N := some 11) (v := ?_) (a' := ?_) (bq 14 16383) rfl rfl (by kernel_rfl) (fun _ _ _ h => h) (Or.inl ⟨by rfl, ?_⟩) ?_ ?_
     rotate_left
     ·intro w'
      go_simp
      with_reducible rfl
     rotate_left
     ·simp only [Act.put, pA, pB, pC]
      rfl
     refine done_ (by kernel_rfl) ?_
     clear hHeld
     rw [mul_wrap x0 x1 y0 y1 hr hxy0 hxy1]
     have hz := mul_step (x := x) (y := y) hL Hval.out x0 y0 hxy0
     rw [← hvx.out] at hz
     have hz0 : 0 ≤ x * y + r := by omega
     have hz1 : x * y + r ≤ 18446744069414584320 := by omega
     generalize x * y + (r : Int) = z at hz hz0 hz1
     have Hz := Lib.hid hz
     have hd0 : 0 ≤ z % 4294967296 := by omega
     have hd1 : z % 4294967296 < 4294967296 := by omega
     have HBd : Below w3.heap.size w3 wr.drew := bl_drew hbw
     have O' := Lib.hid O.out.drew
     have hsz : w3.heap.size ≤ wr.drew.heap.size := HBd.size
     clear hz hxy0 hxy1 X Y
     generalize wr.drew = wd at HBd O' hsz
     go_wp2_with (at_builtin; refine wpList_appU rfl (.tmp 43) (.tmp 47) rfl w3.heap.size _ L rfl (O'.out.alloc _) (wd.heap.size + 1) (some ⟨wd.heap.size, 0, none⟩) 1 1 [_] rfl (SlU.lit1 (Blk.new wd _ _) hd0 hd1 (by omega)) (by simp; omega) (by simp; omega) ?_; intro v4 w4 O4 hg4 hat4)
     refine ⟨⟨k + 1, _, (z / 4294967296).toNat, by omega, by go_num, by rw [Int.toNat_of_nonneg (by omega)], by omega, by rw [List.length_append, hL]; rfl, HLim.out.app (Lim.one hd0 hd1), Hz.out, O4, (HBd.alloc hsz _).grown hg4 (by simp; omega) (fun k hk => (O.out.lt k hk).1)⟩, by simp [intOf]; omega⟩
    ·have hkn' : k = n := by omega
     subst hkn'
     have hN : Hid (valL (L ++ [(r : Int)]) = valL xs * y.toNat) := Lib.hid (by
      have h := Hval.out
      rw [List.take_of_length_le (by rw [Hs.out.1]; exact Nat.le_refl _)] at h
      rw [valL_snoc, hL, Int.toNat_natCast]
      exact h)
     have hr0 : 0 ≤ (r : Int) := by omega
     have hr1 : (r : Int) < 4294967296 := by omega
     have hsz : w3.heap.size ≤ wr.heap.size := hbw.size
     clear Y
     go_wp2_with (first
      | (at_builtin; refine wpList_appU rfl (.tmp 51) (.tmp 54) rfl w3.heap.size _ L rfl (O.out.alloc _) (wr.heap.size + 1) (some ⟨wr.heap.size, 0, none⟩) 1 1 [_] rfl (SlU.lit1 (Blk.new wr _ _) hr0 hr1 (by omega)) (by simp; omega) (by simp; omega) ?_; intro v4 w4 O4 hg4 hat4; have HB4 : Below w3.heap.size w3 w4 := (hbw.alloc hsz _).grown hg4 (by simp; omega) (fun k hk => (O.out.lt k hk).1); obtain ⟨A4, c4, rfl, hc4, S4⟩ := O4.sln (n := k + 1) (HLim.out.app (Lim.one hr0 hr1)) (by rw [List.length_append, hL]; rfl); have S4 := Lib.hid S4; have HAd := Lib.hid (r1add_calls A3 (n1 + 1) c3 _ A4 (k + 1) c4 _ w4 (S3.out.on HB4) S4.out (by omega) (by omega)); clear O4 hg4 hat4)
      | (go_at_call 133; (refine HAd.out.mono ?_); rintro e w5 ⟨A5, n5, c5, rfl, hc5, S5, hb⟩))
     have hT : valL xs * valL (ys.drop j) = valL ([0] ++ digs P) + valL (L ++ [(r : Int)]) := by
      rw [hv3.out, hN.out, hvd.out, ← hP.out, Nat.mul_add, Nat.mul_left_comm, Nat.add_comm]
     refine ⟨⟨j, A5, n5, c5, by omega, rfl, rfl, hc5, by rw [hT]; exact S5, bl_trans (bl_trans HB3 HB4) hb⟩, by simp [intOf]⟩
end Go.Proofs.YtagojbgmgkkdpaaGreat.Wk
