/- A law of 'for .. := range f' whose iterator writes boxes of its own, of types Ts, between two rounds. -/
import Derived.Test.YteabdeohhmbclaaGreatFeXy
namespace Go.Proofs.YteabdeohhmbclaaGreat.Wk
open Go.RowKit Go.Proofs.Pl Go.Proofs.YteabdeohhmbclaaGreatW.PrintLast
set_option linter.unusedSimpArgs false
set_option linter.unusedVariables false

theorem StayO.blk {β : Type} {B : Nat} {Ts : List TypeId} (g : Nat) (t : TypeId) (cs : Array Value) (hg : g < B) : StayO B Ts (fun (_ : β) W => Blk W g t cs) :=
 fun _ X Y row h hgr hr => h.grown hgr fun e => by have := (hr g e.symm).1; omega
theorem StayO.and {β : Type} {B : Nat} {Ts : List TypeId} {J K : β → World → Prop} (h : StayO B Ts J) (k : StayO B Ts K) : StayO B Ts (fun s W => J s W ∧ K s W) :=
 fun s X Y row hs hgr hr => ⟨h s X Y row hs.1 hgr hr, k s X Y row hs.2 hgr hr⟩
theorem StayO.pure {β : Type} {B : Nat} {Ts : List TypeId} (J : β → Prop) : StayO B Ts (fun s _ => J s) := fun _ _ _ _ hs _ _ => hs
theorem StayO.bel {β : Type} {B n : Nat} {Ts : List TypeId} {w : World} (hn : n ≤ B) (hw : n ≤ w.heap.size) : StayO B Ts (fun (_ : β) W => Below n w W) :=
 fun _ X Y row h hgr hr => ⟨hgr.os.trans h.os, hgr.tape.trans h.tape, hgr.output.trans h.output, Nat.le_trans h.size hgr.size, fun k hk => (hgr.block k (by have := h.size; omega) (fun e => by have := (hr k e.symm).1; omega)).trans (h.block k hk)⟩
section
variable {α : Type} {F : Fence} {n : Nat} {P : Program} {g : Operand} {ps : Array Tmp} {assign body : Code} {Q : Exit → Act → World → Prop} {a : Act} {w : World}
theorem rangeT (hro : F.round = none) (hn : 1 ≤ n) {gf : Nat} {lb : Array Value} (hg : a.eval g = .func (.func gf) #[] lb) (hF : F.fn gf) (eg : ∀ args w, (callFunc gf args).run P w = .ok (.enter gf args) w)
  {encs : α → Array Value} {Kp : World → World → Prop} {Ts : List TypeId} {S Sp : List α → Prop} (hseq : SeqT F (n - 1) P gf lb encs Kp Ts S Sp w)
  (hKt : ∀ {A B C : World}, Kp A B → Kp B C → Kp A C) (hKb : ∀ (W : World) (l : Nat) (o o' : Obj), w.heap.size ≤ l → W.heap[l]? = some o → o.isCells = false → Kp W (W.putObj l o')) (hps : ∀ x, (encs x).size = ps.size)
  (I : List α → World → Prop) (Ix : Code → List α → World → Prop) (hI : StayO w.heap.size Ts I) (hIx : ∀ c, StayO w.heap.size Ts (Ix c)) (h0 : I [] w) (Ax : α → Act → World → Prop) (hAx : ∀ x a' X l (o o' : Obj), Ax x a' X → w.heap.size ≤ l → X.heap[l]? = some o → o.isCells = false → Ax x a' (X.putObj l o'))
  (hassign : ∀ (l : Nat) (pre : List α) (x : α) (W : World) (K : Act → World → Prop), I pre W → (∀ a' W', KeepsFrom w.heap.size W W' → Kp W W' → I pre W' → Ax x a' W' → K a' W') →
   assign.wpIn (F.inRound l) (n - 1 - 1) P (Exit.then K (fun _ _ _ => False)) { tmps := (ps.zip (encs x)).foldl (fun t (p, v) => t.setIfInBounds p v) a.tmps, defers := [] } W)
  (hbody : ∀ (l : Nat) (pre : List α) (x : α) (a' : Act) (W : World), w.heap.size ≤ l → I pre W → Ax x a' W → Sp (pre ++ [x]) → body.wpIn (F.inRound l) (n - 1 - 1) P (ownPostG w.heap.size Kp I Ix (pre ++ [x]) W) a' W)
  (hdone : ∀ (D : Nat) (xs : List α) (W : World), w.heap.size ≤ D → S xs → I xs W → W.heap[D]? = some (.deferred (some [])) → Q .normal { a with defers := { target := .collected D, args := #[] } :: a.defers } W)
  (hstop : ∀ (D : Nat) (c : Code) (pre : List α) (W : World), w.heap.size ≤ D → Sp pre → Ix c pre W → W.heap[D]? = some (.deferred (some [])) → c.wpIn F n P Q { a with defers := { target := .collected D, args := #[] } :: a.defers } W) :
  (Code.rangeFunc g ps assign body).wpIn F n P Q a w := by
 refine wpIn_rangeFunc ?_
 intro fn hfn
 rw [hro]
 -- the loop's record stands at L, its collected defers at D
 obtain ⟨D, hD⟩ : ∃ D, D = w.heap.size := ⟨_, rfl⟩
 obtain ⟨L, hL⟩ : ∃ L, L = w.heap.size + 1 := ⟨_, rfl⟩
 obtain ⟨R, hR⟩ : ∃ R : LoopState → Option Code → Loop, R = fun st pe => { state := st, pending := pe, fn, tmps := a.tmps, params := ps, assign, body, defers := w.heap.size } := ⟨_, rfl⟩
 obtain ⟨V, hV⟩ : ∃ V, (w.alloc (.deferred (some []))).alloc (.loop (R .ready none)) = V := ⟨_, rfl⟩
 have sV : V.heap.size = w.heap.size + 2 := by rw [← hV]; simp
 have atL : V.heap[L]? = some (.loop (R .ready none)) := by
  have h := World.alloc_heap_new (w.alloc (.deferred (some []))) (.loop (R .ready none))
  rw [World.size_alloc] at h
  rw [← hV, hL]; exact h
 have atD : V.heap[D]? = some (.deferred (some [])) := by
  rw [← hV, hD]; exact (Below.heap_alloc _ _ _ (by simp)).trans (World.alloc_heap_new w _)
 have iV : I [] V := by rw [← hV]; exact hI.made _ (hI.made _ h0)
 have bV : Below w.heap.size w V := by rw [← hV]; exact ((Below.refl _ w).alloc (Nat.le_refl _) _).alloc (by simp) _
 refine ⟨L, [{ target := .collected D, args := #[] }], V, { target := .fn (.func gf) lb, args := #[.func (.yield L) #[] #[]] }, V, gf, #[.func (.yield L) #[] #[]] ++ lb, V, ?_, ?_, ?_, ?_, fun _ => hn, ?_⟩
 ·rw [← hV, hR, hL, hD]; exact run_enterLoop_outer _ _ _ _ _
 ·simp only [resolve, hg]; simp [go_sem]
 ·intro f' hf'; simp [Target.leads] at hf'; subst hf'; exact hF
 ·simp [invoke, go_sem, eg]
 -- the two invariants with the two records beside them
 have stay : ∀ {J : List α → World → Prop} (_ : StayO w.heap.size Ts J) (ob : Obj) (_ : ob.isCells = false), StayT V.heap.size Ts (fun pre W => J pre W ∧ W.heap[L]? = some ob ∧ W.heap[D]? = some (.deferred (some []))) := by
  intro J hJ ob hob s X Y row hs hgr hrow
  have hbx : ∀ r, row = some r → IsBox Ts X r := fun r e => (hrow r e).2
  exact ⟨hJ s X Y row hs.1 hgr fun r e => ⟨by have := (hrow r e).1; omega, .inl (hrow r e).2⟩, other_box hgr hbx hs.2.1 hob, other_box hgr hbx hs.2.2 rfl⟩
 refine (hseq L (fun pre W => I pre W ∧ W.heap[L]? = some (.loop (R .ready none)) ∧ W.heap[D]? = some (.deferred (some [])))
  (fun pre W => ∃ c, Ix c pre W ∧ W.heap[L]? = some (.loop (R .done (some c))) ∧ W.heap[D]? = some (.deferred (some []))) V bV (stay hI _ rfl) ?_ ?_ ⟨iV, atL, atD⟩).mono ?_
 ·rintro s X Y row ⟨c, hs⟩ hgr hrow
  exact ⟨c, stay (hIx c) _ rfl s X Y row hs hgr hrow⟩
 ·rintro pre x W ⟨hi, hl, hd⟩ hlen
  have hy := run_yield (P := P) (args := encs x) hl (by rw [hR]; exact hps x)
  rw [hR] at hy
  refine ⟨fn, _, assign, body, hy, roundIn_of_wpIn hfn (hassign L pre x W _ hi ?_)⟩
  intro a' X hkf hkp hi1 hax
  have hl1 := hkf.same _ _ (by omega) hl rfl
  have hd1 := hkf.same _ _ (by omega) hd rfl
  have hlt : L < X.heap.size := (Array.getElem?_eq_some_iff.1 hl1).1
  clear hy hi hl hd
  refine ⟨_, run_beginRound hl1 (by rw [hR]), ?_⟩
  obtain ⟨Y, hY⟩ : ∃ Y, X.putObj L (.loop { R .ready none with state := .busy }) = Y := ⟨_, rfl⟩
  have hl2 : Y.heap[L]? = some (.loop { R .ready none with state := .busy }) := by rw [← hY]; exact World.putObj_heap_same hlt
  have hd2 : Y.heap[D]? = some (.deferred (some [])) := by rw [← hY]; exact (World.putObj_heap_other (by omega)).trans hd1
  have hk2 : Kp X Y := by rw [← hY]; exact hKb _ _ _ _ (by omega) hl1 rfl
  have hi2 : I pre Y := by rw [← hY]; exact hI.rec _ hi1 (by omega) hl1 rfl
  have ha2 : Ax x a' Y := by rw [← hY]; exact hAx x a' _ _ _ _ hax (by omega) hl1 rfl
  rw [hY]
  refine wpIn_mono (hbody L pre x a' Y (by omega) hi2 ha2 hlen) ?_
  -- the round's end: the record is written
  have fin : ∀ (jump : Option Code) (Z : World), KeepsFrom w.heap.size Y Z → ∃ Z', (Instr.endRound L jump).run P Z = .ok (.b jump.isNone) Z' ∧ Z' = Z.putObj L (.loop (R (if jump.isNone then .ready else .done) jump)) ∧
    Z.heap[L]? = some (.loop { R .ready none with state := .busy }) ∧ Z'.heap[L]? = some (.loop (R (if jump.isNone then .ready else .done) jump)) ∧ Z'.heap[D]? = some (.deferred (some [])) := by
   intro jump Z hk
   have h3 := hk.same _ _ (by omega) hl2 rfl
   have hr := run_endRound (P := P) jump h3
   rw [hR] at hr h3 ⊢
   exact ⟨_, hr, rfl, h3, World.putObj_heap_same (Array.getElem?_eq_some_iff.1 h3).1, (World.putObj_heap_other (by omega)).trans (hk.same _ _ (by omega) hd2 rfl)⟩
  have leave : ∀ (c : Code) (Z : World), KeepsFrom w.heap.size Y Z → Ix c (pre ++ [x]) Z → ∃ Z', (Instr.endRound L (some c)).run P Z = .ok (.b false) Z' ∧ ∃ c, Ix c (pre ++ [x]) Z' ∧ Z'.heap[L]? = some (.loop (R .done (some c))) ∧ Z'.heap[D]? = some (.deferred (some [])) := by
   intro c Z hk hx
   obtain ⟨Z', h1, rfl, h3, h4, h5⟩ := fin (some c) Z hk
   exact ⟨_, h1, c, (hIx c).rec _ hx (by omega) h3 rfl, h4, h5⟩
  rintro e a3 Z hp
  match e, hp with
  | .normal, hp =>
   obtain ⟨Z', h1, rfl, h3, h4, h5⟩ := fin none Z hp.1
   exact ⟨_, _, h1, .inl ⟨rfl, ⟨hI.rec _ hp.2.2 (by omega) h3 rfl, h4, h5⟩, hKt hkp (hKt (hKt hk2 hp.2.1) (hKb _ _ _ _ (by omega) h3 rfl))⟩⟩
  | .ret, hp => obtain ⟨Z', h1, h2⟩ := leave .ret Z hp.1 hp.2; exact ⟨_, _, h1, .inr ⟨rfl, h2⟩⟩
  | .exit id, hp => obtain ⟨Z', h1, h2⟩ := leave (.exit id) Z hp.1 hp.2; exact ⟨_, _, h1, .inr ⟨rfl, h2⟩⟩
  | .goto t, hp => obtain ⟨Z', h1, h2⟩ := leave (.goto t) Z hp.1 hp.2; exact ⟨_, _, h1, .inr ⟨rfl, h2⟩⟩
  | .panic ch, hp => exact hp.elim
  | .outgrown, hp => exact hp.elim
 ·rintro e Z ⟨⟨v, rfl⟩, h⟩
  rcases h with ⟨xs, hS, hi, hl, hd⟩ | ⟨pre, hSp, c, hi, hl, hd⟩
  ·have hr := run_endLoop (P := P) hl (by rw [hR]; simp)
   rw [hR] at hr
   exact ⟨none, _, hr, by rw [hD] at hd ⊢; exact hdone _ xs _ (Nat.le_refl _) hS (hI.rec _ hi (by omega) hl rfl) ((World.putObj_heap_other (by omega)).trans hd)⟩
  ·have hr := run_endLoop (P := P) hl (by rw [hR]; simp)
   rw [hR] at hr
   exact ⟨some c, _, hr, by rw [hD] at hd ⊢; exact hstop _ c pre _ (Nat.le_refl _) hSp ((hIx c).rec _ hi (by omega) hl rfl) ((World.putObj_heap_other (by omega)).trans hd)⟩
end
end Go.Proofs.YteabdeohhmbclaaGreat.Wk
