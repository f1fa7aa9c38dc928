/- Walk: degree.Winding, for every slice of spots (up to 1000). -/
import Derived.Test.YtakajahogjeiaaaDegC
import Derived.Shelf.Abstract
namespace Go.Proofs.Ytakajahogjeiaaa.Wk
open Go.RowKit Go.Shelf Go.Proofs.YtakajahogjeiaaaW.PrintLast
set_option linter.unusedSimpArgs false
set_option linter.unusedVariables false
attribute [local go_sem] Oper.semAt_some

def sumP (p : List (Deg.S × Deg.S)) : Int := p.foldl (fun s x => s + (quartersP x.1 x.2).1) 0
theorem sumP_snoc (p : List (Deg.S × Deg.S)) (x : Deg.S × Deg.S) : sumP (p ++ [x]) = sumP p + (quartersP x.1 x.2).1 := by simp [sumP]
theorem quartersP_bd (a b : Deg.S) : -3 ≤ (quartersP a b).1 ∧ (quartersP a b).1 ≤ 3 := by
  have h := sideP_bd a b
  have ht : 0 ≤ Deg.turn a b ∧ Deg.turn a b < 4 := by unfold Deg.turn; omega
  rw [quartersP_eq]
  (repeat' split) <;> dsimp only <;> omega
theorem sumP_bd0 (p : List (Deg.S × Deg.S)) (s : Int) : s - 3 * (p.length : Int) ≤ p.foldl (fun s x => s + (quartersP x.1 x.2).1) s ∧ p.foldl (fun s x => s + (quartersP x.1 x.2).1) s ≤ s + 3 * (p.length : Int) := by
  induction p generalizing s with
  | nil => simp
  | cons x p ih =>
    have := quartersP_bd x.1 x.2
    have := ih (s + (quartersP x.1 x.2).1)
    simp only [List.foldl_cons, List.length_cons]
    omega
theorem sumP_bd (p : List (Deg.S × Deg.S)) : -(3 * (p.length : Int)) ≤ sumP p ∧ sumP p ≤ 3 * (p.length : Int) := by
  have := sumP_bd0 p 0
  unfold sumP
  omega
theorem pt_fits {xs : List Deg.S} (h : xs.all Deg.fits = true) (i : Nat) : Deg.fits (Deg.pt xs i) = true := by
  unfold Deg.pt
  cases hx : xs[i]? with
  | none => decide
  | some x => exact List.all_eq_true.1 h x (List.mem_of_getElem? hx)
theorem sumP_lines {xs : List Deg.S} (h : xs.all Deg.fits = true) (k : Nat) (hg : ∀ x ∈ Deg.linesOf xs k, (quartersP x.1 x.2).2 = true) : sumP (Deg.linesOf xs k) = Deg.part Deg.qs xs k ∧ ∀ i, i < k → Deg.bad (Deg.line xs i).1 (Deg.line xs i).2 = false := by
  induction k with
  | zero => exact ⟨rfl, fun i hi => absurd hi (Nat.not_lt_zero _)⟩
  | succ k ih =>
    rw [Deg.linesOf_succ] at hg ⊢
    obtain ⟨i1, i2⟩ := ih (fun x hx => hg x (List.mem_append_left _ hx))
    have h1 := hg (Deg.line xs k) (by simp)
    have e := quartersP_fit (a := (Deg.line xs k).1) (b := (Deg.line xs k).2) (pt_fits h _) (pt_fits h _)
    have hb : Deg.bad (Deg.line xs k).1 (Deg.line xs k).2 = false := by
      rw [e] at h1
      cases hb : Deg.bad (Deg.line xs k).1 (Deg.line xs k).2
      · rfl
      · rw [hb] at h1; simp at h1
    refine ⟨?_, fun i hi => ?_⟩
    · rw [sumP_snoc, i1, e, hb]; rfl
    · by_cases hk : i = k
      · subst hk; exact hb
      · exact i2 i (by omega)
theorem wind_lines {xs : List Deg.S} {n : Nat} (hl : xs.length = n) (h0 : 0 < n) (h : xs.all Deg.fits = true) (hg : ∀ x ∈ Deg.linesOf xs n, (quartersP x.1 x.2).2 = true) : Deg.wind xs = ((sumP (Deg.linesOf xs n)).tdiv 4, true) := by
  obtain ⟨h1, h2⟩ := sumP_lines h n hg
  subst hl
  rw [h1]
  exact Deg.wind_good xs (by rintro rfl; simp at h0) h h2
theorem wind_linesBad {xs : List Deg.S} {k : Nat} (hk : k ≤ xs.length) (h : xs.all Deg.fits = true) (hg : ∃ x ∈ Deg.linesOf xs k, (quartersP x.1 x.2).2 = false) : Deg.wind xs = (0, false) := by
  obtain ⟨x, hx, hb⟩ := hg
  refine Deg.lines_bad xs k hk x hx ?_
  unfold Deg.linesOf at hx
  obtain ⟨i, _, rfl⟩ := List.mem_map.1 hx
  have e := quartersP_fit (a := (Deg.line xs i).1) (b := (Deg.line xs i).2) (pt_fits h _) (pt_fits h _)
  rw [e] at hb
  cases hb2 : Deg.bad (Deg.line xs i).1 (Deg.line xs i).2
  · rw [hb2] at hb; simp at hb
  · rfl
theorem keepsFrom_below {W W' : World} (hb : Below W.heap.size W W') (B : Nat) : KeepsFrom B W W' := ⟨hb.size, fun k o _ hk _ => (hb.block k (Array.getElem?_eq_some_iff.1 hk).1).trans hk⟩
theorem blk_own {β : Type} (g : Nat) (t : TypeId) (f : β → Array Value) : Own (fun s W => Blk W g t (f s)) := fun s X Y row hs hg hrow =>
  Blk.grown hs hg (fun e' => by obtain ⟨o, ho, hc⟩ := hrow g e'.symm; rw [show X.heap[g]? = _ from hs] at ho; cases ho; cases hc)
theorem Blk.c1 {w : World} {g : Nat} {t : TypeId} {x0 : Value} (h : Blk w g t #[x0]) : w.cell? ⟨g, 0, none⟩ = some x0 ∧ w.frozen? ⟨g, 0, none⟩ = false := ⟨h.cell 0, h.frozen 0⟩
theorem ret_two {a b : Int} {p q : Bool} (h : (a, p) = (b, q)) : Ending.returned (.tuple #[.int .i64 a, .bool p]) = Ending.returned (.tuple #[.int .i64 b, .bool q]) := by cases h; rfl

theorem winding_results (tmps : Array Value) (W : World) (r0 r1 : Nat) (x : Int) (p : Bool) (h2 : tmps[2]?.getD undef = .pointer (some ⟨r0, 0, none⟩)) (h3 : tmps[3]?.getD undef = .pointer (some ⟨r1, 0, none⟩)) (hb0 : Blk W r0 3 #[.int .i64 x]) (hb1 : Blk W r1 4 #[.bool p]) :
    (results Try.f15 tmps).run Try.prog W = .ok (.tuple #[.int .i64 x, .bool p]) W := by
  obtain ⟨q0, _⟩ := hb0.c1
  obtain ⟨q1, _⟩ := hb1.c1
  simp [results, Try.results15, go_sem, h2, h3, q0, q1]
def goodP (p : List (Deg.S × Deg.S)) : Prop := ∀ x ∈ p, (quartersP x.1 x.2).2 = true
theorem goodP_snoc {p : List (Deg.S × Deg.S)} {x : Deg.S × Deg.S} (h : goodP p) (hx : (quartersP x.1 x.2).2 = true) : goodP (p ++ [x]) := fun y hy => by
  rcases List.mem_append.1 hy with h1 | h1
  · exact h y h1
  · simp at h1; subst h1; exact hx

set_option maxRecDepth 100000 in
set_option maxHeartbeats 4000000 in
theorem winding_calls (A : Option Addr) (n c : Nat) (xs : List Deg.S) (w : World) (hs : SlP w w.heap.size A n xs) (hn : n ≤ 1000) :
    Calls Try.prog 15 #[.slice A n c] w fun e w' => e = .returned (.tuple #[.int .i64 (Deg.wind xs).1, .bool (Deg.wind xs).2]) ∧ Below w.heap.size w w' := by
  refine (callsIn_wide (n := 4)).1 ?_
  refine callsIn_of_wp_marks Try.func15 rfl trivial ?_ rfl
  simp only [Try.ntmps15, List.size_toArray, List.length_cons, List.length_nil, Nat.reduceAdd, Nat.reduceSub, Array.replicate_succ, Array.replicate_zero, List.push_toArray, List.append_toArray, List.nil_append, List.cons_append]
  have BA := (Blk.new w 3 #[.int .i64 0]).alloc (.cells #[.bool false] 4)
  have BB := Blk.new1 w (.cells #[.int .i64 0] 3) 4 #[.bool false]
  have HB := bl_alloc (bl_alloc (Below.refl w.heap.size w) (.cells #[.int .i64 0] 3)) (.cells #[.bool false] 4)
  have HC := Lib.hid (fun W h => containsFunc_calls A n c xs W h hn)
  by_cases h0 : n = 0
  · subst h0
    have hw : Deg.wind xs = (0, false) := by
      have : xs = [] := List.eq_nil_of_length_eq_zero hs.1
      subst this
      rfl
    rw [hw]
    gi_wp2
    refine ⟨trivial, ?_⟩
    gi_wp2
    exact ⟨_, winding_results _ _ w.heap.size (w.heap.size + 1) 0 false rfl rfl BA BB, rfl, HB⟩
  · cases hp : xs.all Deg.fits
    · rw [hp] at HC
      have hw : Deg.wind xs = (0, false) := Deg.wind_unfit xs (.inr hp)
      rw [hw]
      gi_wp2_with (refine ⟨trivial, ?_⟩; gi_at_call 49; refine (callsIn_wide.2 (HC.out _ (hs.on HB))).mono ?_; rintro e w1 ⟨rfl, hb⟩; have BA1 := BA.call hb; have BB1 := BB.call hb; have HB1 := bl_trans HB hb; obtain ⟨q0, f0⟩ := BA1.c1; obtain ⟨q1, f1⟩ := BB1.c1; clear hb HC BA BB HB)
      have hlt : w.heap.size ≤ w.heap.size + 1 := by omega
      exact ⟨_, winding_results _ _ w.heap.size (w.heap.size + 1) 0 false rfl rfl ((BA1.set_ 0 _).far (p := ⟨w.heap.size + 1, 0, none⟩) (by simp) _) ((BB1.far (p := ⟨w.heap.size, 0, none⟩) (by simp) _).set_ 0 _), rfl, bl_set (bl_set HB1 (p := ⟨w.heap.size, 0, none⟩) (Nat.le_refl _) _) (p := ⟨w.heap.size + 1, 0, none⟩) hlt _⟩
    · rw [hp] at HC
      gi_wp2_with (refine ⟨trivial, ?_⟩; first
        | (gi_at_call 49; refine (callsIn_wide.2 (HC.out _ (hs.on HB))).mono ?_; rintro e w1 ⟨rfl, hb⟩; have BA1 := BA.call hb; have BB1 := BB.call hb; have HB1 := bl_trans HB hb; obtain ⟨q0, f0⟩ := BA1.c1; obtain ⟨q1, f1⟩ := BB1.c1; clear hb HC BA BB HB)
        | (gi_at_call 50; refine (callsIn_wide.2 (lines_calls A n c _)).mono ?_; rintro e w' ⟨rfl, rfl⟩))
      have hl1 := BB1.lt
      have BN := (Blk.new w1 3 #[.int .i64 0]).alloc (.cells #[.slice A n c] 22)
      have BS := Blk.new1 w1 (.cells #[.int .i64 0] 3) 22 #[.slice A n c]
      have BA2 := (BA1.alloc (.cells #[.int .i64 0] 3)).alloc (.cells #[.slice A n c] 22)
      have BB2 := (BB1.alloc (.cells #[.int .i64 0] 3)).alloc (.cells #[.slice A n c] 22)
      have HB2 := bl_alloc (bl_alloc HB1 (.cells #[.int .i64 0] 3)) (.cells #[.slice A n c] 22)
      have hsz : ((w1.alloc (.cells #[.int .i64 0] 3)).alloc (.cells #[.slice A n c] 22)).heap.size = w1.heap.size + 2 := by simp
      obtain ⟨W0, hW0⟩ : ∃ W0, (w1.alloc (.cells #[.int .i64 0] 3)).alloc (.cells #[.slice A n c] 22) = W0 := ⟨_, rfl⟩
      rw [hW0] at BN BS BA2 BB2 HB2 hsz ⊢
      have hs2 := (hs.below HB2)
      clear hW0 BA1 BB1 HB1 q0 q1 f0 f1 hs
      generalize hN : w1.heap.size = N at BN BS hsz hl1 ⊢
      clear hN
      refine wpIn_rangeFunc_ownH rfl (by omega) (gf := 82) (lb := #[.pointer (some ⟨N + 1, 0, none⟩)]) rfl trivial (enters_of Try.func82 (by kernel_rfl) rfl)
        (lines_stops 3 (by omega) (N + 1) w.heap.size n c A xs hn W0 BS (by omega) hs2) KpL.trans
        (fun W l o o' hl h1 h2 h3 => ⟨belowK_b (w := W0) (by omega) W l o o' hl h1 h2 h3, World.putObj_heap_other (by omega)⟩) (Below.refl _ _) (fun _ => rfl)
        (fun pre W => ((Blk W N 3 #[.int .i64 (sumP pre)] ∧ Blk W w.heap.size 3 #[.int .i64 0] ∧ Blk W (w.heap.size + 1) 4 #[.bool false] ∧ Blk W (N + 1) 22 #[.slice A n c]) ∧ goodP pre) ∧ Below w.heap.size w W)
        (fun c pre W => ((Blk W w.heap.size 3 #[.int .i64 0] ∧ Blk W (w.heap.size + 1) 4 #[.bool false]) ∧ c = .ret ∧ ∃ x ∈ pre, (quartersP x.1 x.2).2 = false) ∧ Below w.heap.size w W)
        ?hI ?hIx ?h0
        (fun x a' W => ∃ P Q, N + 1 < P ∧ N + 1 < Q ∧ P ≠ Q ∧ (Blk W P 25 #[.int .i64 x.1.1, .int .i64 x.1.2] ∧ Blk W Q 25 #[.int .i64 x.2.1, .int .i64 x.2.2]) ∧ a' = { tmps := #[.slice A n c, undef, .pointer (some ⟨w.heap.size, 0, none⟩), .pointer (some ⟨w.heap.size + 1, 0, none⟩), .func (.func 47) #[] #[], .pointer (some ⟨N, 0, none⟩), .pointer (some ⟨P, 0, none⟩), .pointer (some ⟨Q, 0, none⟩), undef, undef, .slice A n c, .int .i64 n, .bool false, .bool false, .slice A n c, .func (.func 47) #[] #[], .bool false, .bool false, .slice A n c, .func (.func 82) #[] #[.pointer (some ⟨N + 1, 0, none⟩)], .agg #[.int .i64 x.1.1, .int .i64 x.1.2], .agg #[.int .i64 x.2.1, .int .i64 x.2.2], undef, undef, undef, undef, undef, undef, undef, undef, undef, undef, undef, undef, undef], defers := [] })
        ?hAx ?assign ?body ?done ?stop
      case hI =>
        refine OwnFrom.and (OwnFrom.and (Own.from (fun s X Y row h hg hr => ⟨blk_own _ _ (fun s => #[.int .i64 (sumP s)]) s X Y row h.1 hg hr, blk_own _ _ (fun _ => #[.int .i64 0]) s X Y row h.2.1 hg hr, blk_own _ _ (fun _ => #[.bool false]) s X Y row h.2.2.1 hg hr, blk_own _ _ (fun _ => #[.slice A n c]) s X Y row h.2.2.2 hg hr⟩) _) (ownFrom_pure _ _)) (ownFrom_below (Nat.le_refl _) (by omega))
      case hIx =>
        intro c
        exact OwnFrom.and (OwnFrom.and (Own.from (fun s X Y row h hg hr => ⟨blk_own _ _ (fun _ => #[.int .i64 0]) s X Y row h.1 hg hr, blk_own _ _ (fun _ => #[.bool false]) s X Y row h.2 hg hr⟩) _) (ownFrom_pure _ _)) (ownFrom_below (Nat.le_refl _) (by omega))
      case h0 => exact ⟨⟨⟨BN, BA2, BB2, BS⟩, fun x hx => by cases hx⟩, HB2⟩
      case hAx =>
        intro x a'
        rintro s X Y row ⟨P, Q, h1, h2, h3, h4, h5⟩ hg hr
        exact ⟨P, Q, h1, h2, h3, ⟨blk_own _ _ (fun _ : Unit => #[.int .i64 x.1.1, .int .i64 x.1.2]) s X Y row h4.1 hg (fun r e => (hr r e).2), blk_own _ _ (fun _ : Unit => #[.int .i64 x.2.1, .int .i64 x.2.2]) s X Y row h4.2 hg (fun r e => (hr r e).2)⟩, h5⟩
      case assign =>
        rintro l pre x W K ⟨⟨⟨i1, i2, i3, i4⟩, hg⟩, hB⟩ hK
        gi_wp2
        have hb2 : Below W.heap.size W ((W.alloc (.cells #[.int .i64 x.1.1, .int .i64 x.1.2] 25)).alloc (.cells #[.int .i64 x.2.1, .int .i64 x.2.2] 25)) := bl_alloc (bl_alloc (Below.refl _ _) _) _
        have hNW := i4.lt
        exact hK _ _ (keepsFrom_below hb2 _) ⟨hb2.mono hB.size, hb2.block _ hNW⟩ ⟨⟨⟨i1.call hb2, i2.call hb2, i3.call hb2, i4.call hb2⟩, hg⟩, bl_trans hB hb2⟩
          ⟨W.heap.size, W.heap.size + 1, by omega, by omega, by omega, ⟨(Blk.new W _ _).alloc _, Blk.new1 W _ _ _⟩, rfl⟩
      case body =>
        rintro l pre x a' W hl ⟨r, hr⟩ ⟨⟨⟨i1, i2, i3, i4⟩, hg⟩, hB⟩ ⟨P, Q, hP, hQ, hPQ, ⟨bP, bQ⟩, rfl⟩ hlen
        have HQ := Lib.hid (fun W => quarters_calls x.1.1 x.1.2 x.2.1 x.2.2 W)
        have hqb := quartersP_bd x.1 x.2
        have hsb := sumP_bd pre
        have hsn := sumP_snoc pre x
        generalize hqq : quartersP x.1 x.2 = qq at hqb hsn
        have hqq' : quartersP (x.1.1, x.1.2) (x.2.1, x.2.2) = qq := hqq
        rw [hqq'] at HQ
        obtain ⟨q, is⟩ := qq
        dsimp only at HQ hqb hsn
        have Hqq := Lib.hid hqq
        clear hqq hqq'
        obtain ⟨p0, p1⟩ := bP.c2
        obtain ⟨p2, p3⟩ := bQ.c2
        have Hg := Lib.hid hg
        have hPW := bP.lt
        have hQW := bQ.lt
        clear hg
        cases is
        · gi_wp2_with (refine ⟨trivial, ?_⟩; gi_at_call 51; refine (CallsIn.inRound l (callsIn_wide.2 (HQ.out _))).mono ?_; rintro e w2 ⟨rfl, hb⟩; have j2 := i2.call hb; have j3 := i3.call hb; obtain ⟨q0, f0⟩ := j2.c1; obtain ⟨q1, f1⟩ := j3.c1)
          have e1 : ((w2.setCell ⟨w.heap.size, 0, none⟩ (.int .i64 0)).setCell ⟨w.heap.size + 1, 0, none⟩ (.bool false)).heap.size = w2.heap.size := by simp
          exact ⟨((keepsFrom_below hb _).trans ((KeepsOthers.setCell _ _ _).from _)).trans ((KeepsOthers.setCell _ _ _).from _),
            ⟨⟨(j2.set_ 0 _).far (p := ⟨w.heap.size + 1, 0, none⟩) (by simp) _, (j3.far (p := ⟨w.heap.size, 0, none⟩) (by simp) _).set_ 0 _⟩, rfl, x, by simp, by rw [Hqq.out]⟩,
            ((bl_trans hB hb).setCell (p := ⟨w.heap.size, 0, none⟩) (Nat.le_refl _) _).setCell (p := ⟨w.heap.size + 1, 0, none⟩) (by simp) _⟩
        · gi_wp2_with (refine ⟨trivial, ?_⟩; gi_at_call 51; refine (CallsIn.inRound l (callsIn_wide.2 (HQ.out _))).mono ?_; rintro e w2 ⟨rfl, hb⟩; have j1 := i1.call hb; obtain ⟨q0, f0⟩ := j1.c1)
          have hle : w.heap.size ≤ N := by omega
          have j4 := (i4.call hb).far (p := ⟨N, 0, none⟩) (show N + 1 ≠ N by omega) (.int .i64 (sumP pre + q))
          exact ⟨(keepsFrom_below hb _).trans ((KeepsOthers.setCell _ _ _).from _),
            ⟨(hb.mono hB.size).setCell (p := ⟨N, 0, none⟩) hle _, Eq.trans (show _ = some _ from j4) (Eq.symm (show _ = some _ from i4))⟩,
            ⟨⟨by rw [hsn]; exact j1.set_ 0 _, (i2.call hb).far (p := ⟨N, 0, none⟩) (show w.heap.size ≠ N by omega) _, (i3.call hb).far (p := ⟨N, 0, none⟩) (show w.heap.size + 1 ≠ N by omega) _, j4⟩, goodP_snoc Hg.out (by rw [Hqq.out])⟩,
            (bl_trans hB hb).setCell (p := ⟨N, 0, none⟩) hle _⟩
      case done =>
        rintro D ys W hD rfl ⟨⟨⟨i1, i2, i3, i4⟩, hg⟩, hB⟩ hK
        have hwl := wind_lines (n := n) hs2.1 (by omega) hp hg
        obtain ⟨q0, f0⟩ := i1.c1
        obtain ⟨q1, f1⟩ := i2.c1
        obtain ⟨q2, f2⟩ := i3.c1
        gi_wp2
        have hK' := ((KeepsOthers.setCell W ⟨w.heap.size, 0, none⟩ (.int .i64 (wrap64 ((sumP (Deg.linesOf xs n)).tdiv 4)))).trans (KeepsOthers.setCell _ ⟨w.heap.size + 1, 0, none⟩ (.bool true))).same D _ hK rfl
        refine ⟨by simp, .inl ⟨_, _, rfl, run_takeDeferred hK', ?_⟩⟩
        have b0 := (i2.set_ 0 (.int .i64 (wrap64 ((sumP (Deg.linesOf xs n)).tdiv 4)))).far (p := ⟨w.heap.size + 1, 0, none⟩) (by simp) (.bool true)
        have b1 := (i3.far (p := ⟨w.heap.size, 0, none⟩) (by simp) (.int .i64 (wrap64 ((sumP (Deg.linesOf xs n)).tdiv 4)))).set_ 0 (.bool true)
        have hbd := Deg.wind_bd xs (by have := hs2.1; omega)
        have hbw := (hB.setCell (p := ⟨w.heap.size, 0, none⟩) (Nat.le_refl _) (.int .i64 (wrap64 ((sumP (Deg.linesOf xs n)).tdiv 4)))).setCell (p := ⟨w.heap.size + 1, 0, none⟩) (by simp) (.bool true)
        rw [hwl] at hbd ⊢
        dsimp only at hbd
        refine ⟨_, winding_results _ _ w.heap.size (w.heap.size + 1) (wrap64 ((sumP (Deg.linesOf xs n)).tdiv 4)) true rfl rfl ((World.putObj_heap_other (by omega)).trans b0) ((World.putObj_heap_other (by omega)).trans b1), ret_pair ?_ rfl, hbw.trans (belowK_b (w := w) (Nat.le_refl _) _ D _ _ (by omega) hK' rfl rfl)⟩
        unfold wrap64
        omega
      case stop =>
        rintro D c' pre W hD ⟨k, hk, rfl⟩ ⟨⟨⟨i2, i3⟩, rfl, hbad⟩, hB⟩ hK
        have hwl := wind_linesBad (by have := hs2.1; omega) hp hbad
        gi_wp2
        refine ⟨by simp, .inl ⟨_, _, rfl, run_takeDeferred hK, ?_⟩⟩
        refine ⟨_, winding_results _ _ w.heap.size (w.heap.size + 1) 0 false rfl rfl ((World.putObj_heap_other (by omega)).trans i2) ((World.putObj_heap_other (by omega)).trans i3), by rw [hwl], hB.trans (belowK_b (w := w) (Nat.le_refl _) _ D _ _ (by omega) hK rfl rfl)⟩
end Go.Proofs.Ytakajahogjeiaaa.Wk
