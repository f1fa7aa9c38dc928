/- The plain law of PavingRuns: a tube that runs on, and one that stands still. -/
import Derived.Test.YteabdeohhmbclaaPvZr
import Derived.Test.YteabdeohhmbclaaPureAr
namespace Go.Proofs.Yteabdeohhmbclaa.Wk
open Go.RowKit Go.Proofs.Pl Go.Proofs.YteabdeohhmbclaaW.PrintLast
set_option linter.unusedSimpArgs false
set_option linter.unusedVariables false

/-! looks that end -/
section
variable {out : Pr → Bool} {spl : Pr → Option (Pr × Pr)}
theorem lookN_ends (P : Pr → Prop) (wt : Pr → Nat) (hs : ∀ p h l, P p → spl p = some (h, l) → P h ∧ P l ∧ wt h + wt l + 1 ≤ wt p) (hw : ∀ p, P p → 1 ≤ wt p) (all : Pr) (h0 : P all) (n : Nat) :
  (∀ p ∈ (lookN out spl ([all], []) n).1, P p) ∧ (∀ c ∈ (lookN out spl ([all], []) n).2, P c.p ∧ c.kd = 0 ∧ out c.p = false ∧ spl c.p = none) ∧ ((lookN out spl ([all], []) n).1 = [] ∨ ((lookN out spl ([all], []) n).1.map wt).sum + n ≤ wt all) ∧ (lookN out spl ([all], []) n).2.length ≤ n := by
 induction n with
 | zero => exact ⟨fun p hp => by rw [List.mem_singleton.1 hp]; exact h0, fun c hc => (by cases hc), .inr (by show wt all + 0 + 0 ≤ wt all; omega), Nat.le_refl _⟩
 | succ n ih =>
  show (∀ p ∈ (lookS out spl (lookN out spl ([all], []) n)).1, P p) ∧ (∀ c ∈ (lookS out spl (lookN out spl ([all], []) n)).2, P c.p ∧ c.kd = 0 ∧ out c.p = false ∧ spl c.p = none) ∧ ((lookS out spl (lookN out spl ([all], []) n)).1 = [] ∨ ((lookS out spl (lookN out spl ([all], []) n)).1.map wt).sum + (n + 1) ≤ wt all) ∧ (lookS out spl (lookN out spl ([all], []) n)).2.length ≤ n + 1
  obtain ⟨h1, h2, h3, h4⟩ := ih
  generalize lookN out spl ([all], []) n = s at h1 h2 h3 h4
  obtain ⟨ps, cs⟩ := s
  dsimp only at h1 h2 h3 h4
  rcases List.eq_nil_or_concat ps with rfl | ⟨qs, p, rfl⟩
  ·rw [lookS_nil]
   exact ⟨h1, h2, .inl rfl, by dsimp only; omega⟩
  rw [List.concat_eq_append] at *
  ·rw [lookS_snoc]
   have hp := h1 p (by simp)
   have hwp := hw p hp
   have hq : ∀ q ∈ qs, P q := fun q hq => h1 q (List.mem_append_left _ hq)
   have h3' : (qs.map wt).sum + wt p + n ≤ wt all := by
    rcases h3 with h3 | h3
    ·simp at h3
    ·rw [List.map_append, List.sum_append] at h3
     simpa using h3
   by_cases ho : out p = true
   ·rw [if_pos ho]
    exact ⟨hq, h2, .inr (by dsimp only; omega), by dsimp only; omega⟩
   ·rw [if_neg ho]
    cases hx : spl p with
    | none =>
     refine ⟨hq, fun c hc => ?_, .inr (by dsimp only; omega), by simp; omega⟩
     rcases List.mem_append.1 hc with hc | hc
     ·exact h2 c hc
     ·rw [List.mem_singleton.1 hc]; exact ⟨hp, rfl, by simpa using ho, hx⟩
    | some x =>
     obtain ⟨h, l⟩ := x
     obtain ⟨k1, k2, k3⟩ := hs p h l hp hx
     refine ⟨fun q hq' => ?_, h2, .inr ?_, by dsimp only; omega⟩
     ·rcases List.mem_append.1 hq' with hq' | hq'
      ·exact hq q hq'
      ·simp only [List.mem_cons, List.not_mem_nil, or_false] at hq'
       rcases hq' with rfl | rfl
       ·exact k1
       ·exact k2
     ·dsimp only
      rw [List.map_append, List.sum_append]
      have : ([h, l].map wt).sum = wt h + wt l := by simp
      omega
end
/-! the tubes -/
theorem wh_small {n : Int} (h1 : -100000 ≤ n) (h2 : n ≤ 100000) : Wh n := Wh.of (by omega) (by omega)
def runS (r : Int) (k : Nat) : Slc := ⟨ofN (k + 1), ofIv (r * k) (r * (k + 1)), ofIv (r * (k + 1)) (r * (k + 1))⟩
def runT (r : Int) (n : Nat) : List Slc := (List.range n).map (runS r)
theorem runT_len (r : Int) (n : Nat) : (runT r n).length = n := by unfold runT; simp
theorem runT_succ (r : Int) (n : Nat) : runT r (n + 1) = runT r n ++ [runS r n] := by
 unfold runT; rw [List.range_succ, List.map_append]; rfl
theorem runT_at (r : Int) {n k : Nat} (h : k < n) : sliceAt (runT r n) k = runS r k := by
 unfold sliceAt runT
 rw [List.getD_eq_getElem?_getD, List.getElem?_map, List.getElem?_range h]
 rfl
theorem mul_bd {r k : Int} (h1 : 0 ≤ r) (h2 : r ≤ 1000) (k1 : 0 ≤ k) (k2 : k ≤ 9) : 0 ≤ r * k ∧ r * k ≤ 9000 := by
 refine ⟨Int.mul_nonneg h1 k1, ?_⟩
 have := Int.mul_le_mul h2 k2 k1 (by decide : (0 : Int) ≤ 1000)
 omega
theorem wh_mul {r k : Int} (h1 : 0 ≤ r) (h2 : r ≤ 1000) (k1 : 0 ≤ k) (k2 : k ≤ 9) : Wh (r * k) := by
 have := mul_bd h1 h2 k1 k2
 exact wh_small (by omega) (by omega)
theorem runS_wf {r : Int} (h1 : 0 ≤ r) (h2 : r ≤ 1000) {k : Nat} (hk : k < 8) : WfS (runS r k) :=
 ⟨ofN_wf (wh_small (by omega) (by omega)), ofIv_wf (wh_mul h1 h2 (by omega) (by omega)) (wh_mul h1 h2 (by omega) (by omega)), ofIv_wf (wh_mul h1 h2 (by omega) (by omega)) (wh_mul h1 h2 (by omega) (by omega))⟩
theorem o_wf : WfIv (ofIv 0 0) := ofIv_wf (wh_small (by omega) (by omega)) (wh_small (by omega) (by omega))
theorem run_wf {r : Int} (h1 : 0 ≤ r) (h2 : r ≤ 1000) : WfTb zero (ofIv 0 0) (runT r 8) := by
 refine ⟨zero_wf, o_wf, fun x hx => ?_⟩
 unfold runT at hx
 obtain ⟨k, hk, rfl⟩ := List.mem_map.1 hx
 exact runS_wf h1 h2 (List.mem_range.1 hk)
theorem run_end (r : Int) : endT zero (runT r 8) = ofN 8 := rfl
theorem run_num (r : Int) {k : Nat} (hk : k ≤ 8) : gNum zero (runT r 8) k = ofN k := by
 unfold gNum
 cases k with
 | zero => rfl
 | succ k =>
  rw [if_neg (by omega), runT_at r (show k + 1 - 1 < 8 by omega)]
  rfl
theorem sub_ofIv {a b c d : Int} (ha : Wh a) (hb : Wh b) (hc : Wh c) (hd : Wh d) (hab : a ≤ b) (h1 : c ≤ a) (h2 : b ≤ d) : sub (code (ofIv a b)) (code (ofIv c d)) := fun j hj => by
 rw [mem_code] at hj ⊢
 obtain ⟨_, k1, k2⟩ := hj
 refine ⟨(ofIv_full hc hd (by omega)).2, ?_, ?_⟩
 ·have := (ofN_le hc ha).2 h1
  exact Int.le_trans this k1
 ·have := (ofN_le hb hd).2 h2
  exact Int.le_trans k2 this
theorem run_gate {r : Int} (h1 : 0 ≤ r) (h2 : r ≤ 1000) {k : Nat} (hk : k ≤ 8) : WfIv (gIv (ofIv 0 0) (runT r 8) k) ∧ sub (code (gIv (ofIv 0 0) (runT r 8) k)) (code (ofIv (r * k) (r * k))) := by
 have hg : WfIv (gIv0 (ofIv 0 0) (runT r 8) k) ∧ sub (code (gIv0 (ofIv 0 0) (runT r 8) k)) (code (ofIv (r * k) (r * k))) := by
  unfold gIv0
  cases k with
  | zero =>
   rw [if_pos rfl, show r * ((0 : Nat) : Int) = 0 from Int.mul_zero r]
   exact ⟨o_wf, sub_refl _⟩
  | succ k =>
   have w := runS_wf h1 h2 (show k < 8 by omega)
   rw [if_neg (by omega), show k + 1 - 1 = k from rfl, runT_at r (show k < 8 by omega)]
   refine ⟨meet2_wf w.2.2 w.2.1, ?_⟩
   exact (Go.Proofs.Pl.within_iff (meet2_wf w.2.2 w.2.1) w.2.2).1 (within_meet w.2.2 w.2.1).1
 unfold gIv
 rw [runT_len]
 split
 ·rename_i h
  have w := runS_wf h1 h2 h
  rw [runT_at r h]
  refine ⟨meet2_wf hg.1 w.2.1, fun j hj => hg.2 j ?_⟩
  exact (Go.Proofs.Pl.within_iff (meet2_wf hg.1 w.2.1) hg.1).1 (within_meet hg.1 w.2.1).1 j hj
 ·exact hg
theorem whk {k : Nat} (h : k ≤ 8) : Wh (k : Int) := wh_small (by omega) (by omega)
theorem run_at {r : Int} (h1 : 0 ≤ r) (h2 : r ≤ 1000) (hm : mayT ⟨zero, ofIv 0 0, runT r 8⟩ = true) {k : Nat} (hk : k ≤ 8) :
  WfIv (atT zero (ofIv 0 0) (runT r 8) (ofN k)) ∧ sub (code (atT zero (ofIv 0 0) (runT r 8) (ofN k))) (code (ofIv (r * k) (r * k))) := by
 unfold atT
 rw [if_pos hm]
 cases hf : (gatesL zero (ofIv 0 0) (runT r 8) ((runT r 8).length + 1)).find? (fun g => cmpN (ofN k) g.2.1 == 0) with
 | none =>
  exfalso
  rw [List.find?_eq_none] at hf
  have := hf (k, gNum zero (runT r 8) k, gIv (ofIv 0 0) (runT r 8) k) (by unfold gatesL; rw [List.mem_map]; exact ⟨k, List.mem_range.2 (by rw [runT_len]; omega), rfl⟩)
  rw [run_num r hk, cmp_ofN (whk hk) (whk hk)] at this
  simp at this
 | some g =>
  have hp := List.find?_some hf
  have hmem := List.mem_of_find?_eq_some hf
  unfold gatesL at hmem
  obtain ⟨j, hj, rfl⟩ := List.mem_map.1 hmem
  rw [runT_len, List.mem_range] at hj
  dsimp only at hp ⊢
  rw [run_num r (by omega), cmp_ofN (whk hk) (whk (by omega))] at hp
  have : j = k := by
   rcases Nat.lt_trichotomy j k with h | h | h
   ·rw [if_neg (by omega), if_pos (by omega)] at hp; simp at hp
   ·exact h
   ·rw [if_pos (by omega)] at hp; simp at hp
  subst this
  exact run_gate h1 h2 (by omega)
theorem run_over {r : Int} (h1 : 0 ≤ r) (h2 : r ≤ 1000) {a b : Nat} (hab : a ≤ b) (hb : b ≤ 8) :
  WfIv (overT zero (ofIv 0 0) (runT r 8) (ofIv a b)) ∧ sub (code (overT zero (ofIv 0 0) (runT r 8) (ofIv a b))) (code (ofIv (r * a) (r * b))) := by
 have wa := wh_mul h1 h2 (show (0 : Int) ≤ (a : Int) by omega) (by omega)
 have wb := wh_mul h1 h2 (show (0 : Int) ≤ (b : Int) by omega) (by omega)
 have mono : ∀ {x y : Nat}, x ≤ y → r * (x : Int) ≤ r * (y : Int) := fun h => Int.mul_le_mul_of_nonneg_left (by omega) h1
 have hnone : WfIv noneI ∧ sub (code noneI) (code (ofIv (r * a) (r * b))) := ⟨noneI_wf, fun j hj => by rw [code_noneI] at hj; exact hj.elim⟩
 unfold overT
 split
 ·exact hnone
 ·rename_i hm0
  have hm : mayT ⟨zero, ofIv 0 0, runT r 8⟩ = true := by
   simp only [Bool.or_eq_true, Bool.not_eq_true', not_or] at hm0
   simpa using hm0.1.1
  rw [if_neg (by
   rintro (h | h)
   ·rw [← ofN_zero] at h
    rw [show (ofIv (a : Int) (b : Int)).lo = ofN a from rfl, cmp_ofN (whk (by omega)) (show Wh 0 from whk (k := 0) (by omega))] at h
    rw [if_neg (by omega)] at h
    split at h <;> omega
   ·rw [run_end, show (ofIv (a : Int) (b : Int)).hi = ofN b from rfl, cmp_ofN (whk (by omega)) (show Wh 8 from whk (k := 8) (by omega))] at h
    split at h
    ·omega
    ·rw [if_neg (by omega)] at h; omega)]
  have step : ∀ {k x y : Nat}, sub (code (ofIv (r * x) (r * y))) (code (ofIv (r * a) (r * b))) → True := fun _ => trivial
  have inn : ∀ {k : Nat}, a ≤ k → k ≤ b → sub (code (ofIv (r * (k : Int)) (r * (k : Int)))) (code (ofIv (r * a) (r * b))) := fun {k} h g =>
   sub_ofIv (wh_mul h1 h2 (by omega) (by omega)) (wh_mul h1 h2 (by omega) (by omega)) wa wb (Int.le_refl _) (mono h) (mono g)
  have key : ∀ k, k ≤ 9 → (∀ y ∈ (overF (ofIv a b) (runT r 8) ([atT zero (ofIv 0 0) (runT r 8) (ofN a), atT zero (ofIv 0 0) (runT r 8) (ofN b)], zero) (gatesL zero (ofIv 0 0) (runT r 8) k)).1, WfIv y ∧ sub (code y) (code (ofIv (r * a) (r * b)))) ∧ (overF (ofIv a b) (runT r 8) ([atT zero (ofIv 0 0) (runT r 8) (ofN a), atT zero (ofIv 0 0) (runT r 8) (ofN b)], zero) (gatesL zero (ofIv 0 0) (runT r 8) k)).2 = ofN ((k - 1 : Nat) : Int) := by
   intro k
   induction k with
   | zero =>
    intro _
    refine ⟨fun y hy => ?_, ofN_zero.symm⟩
    have hy' : y ∈ [atT zero (ofIv 0 0) (runT r 8) (ofN a), atT zero (ofIv 0 0) (runT r 8) (ofN b)] := hy
    simp only [List.mem_cons, List.not_mem_nil, or_false] at hy'
    rcases hy' with rfl | rfl
    ·obtain ⟨g1, g2⟩ := run_at h1 h2 hm (show a ≤ 8 by omega)
     exact ⟨g1, fun j hj => inn (Nat.le_refl a) hab j (g2 j hj)⟩
    ·obtain ⟨g1, g2⟩ := run_at h1 h2 hm hb
     exact ⟨g1, fun j hj => inn hab (Nat.le_refl b) j (g2 j hj)⟩
   | succ k ih =>
    intro hk
    obtain ⟨i1, i2⟩ := ih (by omega)
    rw [gatesL_succ, overF_snoc]
    refine ⟨fun y hy => ?_, ?_⟩
    ·rcases List.mem_append.1 hy with hy | hy
     ·exact i1 y hy
     ·rw [i2] at hy
      unfold overStep at hy
      dsimp only at hy
      rcases List.mem_append.1 hy with hy | hy
      ·split at hy
       ·rename_i hhas
        rw [List.mem_singleton] at hy
        subst hy
        obtain ⟨g1, g2⟩ := run_gate h1 h2 (show k ≤ 8 by omega)
        refine ⟨g1, fun j hj => ?_⟩
        rw [run_num r (by omega), has_iff (ofIv_wf (whk (by omega)) (whk hb)) (ofN_wf (whk (by omega))), K_ofN (whk (by omega))] at hhas
        obtain ⟨_, _, c1, c2⟩ := hhas
        have d1 := (ofN_le (whk (by omega)) (whk (by omega))).1 c1
        have d2 := (ofN_le (whk (by omega)) (whk hb)).1 c2
        exact inn (by omega) (by omega) j (g2 j hj)
       ·cases hy
      ·split at hy
       ·rename_i hc
        obtain ⟨c1, _, c3, c4⟩ := hc
        rw [List.mem_singleton] at hy
        subst hy
        rw [runT_at r (show k - 1 < 8 by omega)]
        have w := runS_wf h1 h2 (show k - 1 < 8 by omega)
        refine ⟨w.2.1, ?_⟩
        rw [run_num r (by omega), show (ofIv (a : Int) (b : Int)).lo = ofN a from rfl, cmp_ofN (whk (by omega)) (whk (by omega))] at c3
        rw [show (ofIv (a : Int) (b : Int)).hi = ofN b from rfl, cmp_ofN (whk (by omega)) (whk hb)] at c4
        have e1 : a < k := by
         by_cases h : (a : Int) < (k : Int)
         ·omega
         ·rw [if_neg h] at c3; split at c3 <;> omega
        have e2 : k - 1 < b := by
         by_cases h : ((k - 1 : Nat) : Int) < (b : Int)
         ·omega
         ·rw [if_neg h] at c4; split at c4 <;> omega
        have e3 : ((k - 1 : Nat) : Int) + 1 = (k : Int) := by omega
        show sub (code (ofIv (r * ((k - 1 : Nat) : Int)) (r * (((k - 1 : Nat) : Int) + 1)))) _
        rw [e3]
        exact sub_ofIv (wh_mul h1 h2 (by omega) (by omega)) (wh_mul h1 h2 (by omega) (by omega)) wa wb (mono (by omega)) (mono (by omega)) (mono (by omega))
       ·cases hy
    ·show gNum zero (runT r 8) k = ofN ((k + 1 - 1 : Nat) : Int)
     rw [run_num r (by omega)]; rfl
  obtain ⟨k1, _⟩ := key 9 (Nat.le_refl _)
  rw [runT_len]
  have hwf : ∀ y ∈ (overF (ofIv a b) (runT r 8) ([atT zero (ofIv 0 0) (runT r 8) (ofIv a b).lo, atT zero (ofIv 0 0) (runT r 8) (ofIv a b).hi], zero) (gatesL zero (ofIv 0 0) (runT r 8) (8 + 1))).1, WfIv y := fun y hy => (k1 y hy).1
  exact ⟨hull_wf _ hwf, (sub_hull _ hwf _ (code_ok (ofIv_wf wa wb))).2 fun y hy => (k1 y hy).2⟩
/-! what the tube that runs on does not have at two times -/
theorem sub_lo {x : Iv} {a b : Int} (hx : Full x) (w : WfIv x) (h : sub (code x) (code (ofIv a b))) : key (ofN a) ≤ key x.lo ∧ key x.hi ≤ key (ofN b) := by
 obtain ⟨f0, f1, f2, f3, f4, f5⟩ := (full_iff w).1 hx
 have l := h (key x.lo) (mem_code.2 ⟨hx, Int.le_refl _, f3⟩)
 have g := h (key x.hi) (mem_code.2 ⟨hx, f3, Int.le_refl _⟩)
 rw [mem_code] at l g
 exact ⟨l.2.1, g.2.2⟩
theorem run_moves {r : Int} (h1 : 1 ≤ r) (h2 : r ≤ 1000) {a0 a1 b0 b1 : Nat} (ha : a0 ≤ a1) (hb : b0 ≤ b1) (ha8 : a1 ≤ 8) (hb8 : b1 ≤ 8) (hlt : a1 < b0) :
  movesP zero (ofIv 0 0) (runT r 8) (ofIv a0 a1) (ofIv b0 b1) = true := by
 obtain ⟨wP, sP⟩ := run_over (show 0 ≤ r by omega) h2 hb hb8
 obtain ⟨wQ, sQ⟩ := run_over (show 0 ≤ r by omega) h2 ha ha8
 unfold movesP
 generalize overT zero (ofIv 0 0) (runT r 8) (ofIv b0 b1) = P at wP sP ⊢
 generalize overT zero (ofIv 0 0) (runT r 8) (ofIv a0 a1) = Q at wQ sQ ⊢
 suffices h : ¬ hasI (subI P Q) zero = true by simpa using h
 intro h
 unfold subI addI2 at h
 split at h
 ·rw [has_none zero zero_wf] at h; cases h
 ·rename_i hn
  simp only [Bool.or_eq_true, not_or, Bool.not_eq_true] at hn
  have fP := (noneB_full P).1 hn.1
  have fN := (noneB_full (negI Q)).1 hn.2
  unfold negI at fN h
  split at fN
  ·exact none_not_full fN
  ·rename_i hq
   rw [if_neg hq] at h
   have fQ := (noneB_full Q).1 (by simpa using hq)
   have nq := negN_all Q.hi wQ.2
   have nl := negN_all Q.lo wQ.1
   have eN := fairI_of (show Full ⟨false, fairN (negN Q.hi), fairN (negN Q.lo)⟩ from by rw [makeI_eq] at fN; exact fair_full fN)
   rw [makeI_eq (negN Q.hi), eN] at h
   dsimp only at h
   obtain ⟨p1, p2⟩ := sub_lo fP wP sP
   obtain ⟨q1, q2⟩ := sub_lo fQ wQ sQ
   have wb0 := wh_mul (show 0 ≤ r by omega) h2 (show (0 : Int) ≤ (b0 : Int) by omega) (by omega)
   have wa1 := wh_mul (show 0 ≤ r by omega) h2 (show (0 : Int) ≤ (a1 : Int) by omega) (by omega)
   have hpos : 0 < r * (b0 : Int) - r * (a1 : Int) := by
    rw [← Int.mul_sub]; exact Int.mul_pos (by omega) (by omega)
   have bd0 := mul_bd (show 0 ≤ r by omega) h2 (show (0 : Int) ≤ (b0 : Int) by omega) (by omega)
   have bd1 := mul_bd (show 0 ≤ r by omega) h2 (show (0 : Int) ≤ (a1 : Int) by omega) (by omega)
   have wd : Wh (r * (b0 : Int) - r * (a1 : Int)) := wh_small (by omega) (by omega)
   have KP : K P.lo = key P.lo := K_of ((full_iff wP).1 fP).2.1
   have KQ : K Q.hi = key Q.hi := K_of ((full_iff wQ).1 fQ).2.2.1
   have mono := addN_mono false (ofN_wf wb0) (ofN_wf wa1.neg) wP.1 (fairN_wf nq.2.1) (by rw [K_ofN wb0, KP]; exact p1) (by
    rw [fairN_of nq.1, K_of nq.1, nq.2.2, KQ, K_ofN wa1.neg, ← negN_of wa1, (negN_all _ (ofN_wf wa1)).2.2, K_ofN wa1]; omega)
   rw [addN_of wb0 wa1.neg (by rw [← Int.sub_eq_add_neg]; exact wd), ← Int.sub_eq_add_neg] at mono
   have am := addN_may wP.1 (fairN_wf nq.2.1) false
   have wx : WfIv (makeI (addN P.lo (fairN (negN Q.hi)) false) (addN P.hi (fairN (negN Q.lo)) true)) := make_wf am.2 (addN_may wP.2 (fairN_wf nl.2.1) true).2
   rw [has_iff wx zero_wf] at h
   obtain ⟨fx, _, l1, _⟩ := h
   rw [makeI_eq] at fx l1
   rw [fairI_of (fair_full fx)] at l1
   dsimp only at l1
   rw [fairN_of am.1] at l1
   rw [show K zero = key (ofN 0) from by rw [ofN_zero]; exact K_of mayN_zero] at l1
   have := (ofN_lt (whk (k := 0) (by omega)) wd).2 hpos
   have l2 := Int.le_trans mono l1
   have l3 := (ofN_le wd (whk (k := 0) (by omega))).1 l2
   omega
end Go.Proofs.Yteabdeohhmbclaa.Wk
namespace Go.Proofs.Yteabdeohhmbclaa.Wk
open Go.RowKit Go.Proofs.Pl Go.Proofs.YteabdeohhmbclaaW.PrintLast
set_option linter.unusedSimpArgs false
set_option linter.unusedVariables false

theorem mid_all : ∀ a : Fin 9, ∀ h : Fin 5, 1 ≤ h.1 → a.1 + 2 * h.1 ≤ 8 → mostN [ofN (a.1 : Int), leastN [halfN (ofN (((a.1 + (a.1 + 2 * h.1) : Nat) : Int))) false, ofN ((a.1 + 2 * h.1 : Nat) : Int)]] = ofN ((a.1 + h.1 : Nat) : Int) := by decide +kernel
theorem iv_full {a b : Nat} (h : a ≤ b) (hb : b ≤ 8) : Full (ofIv a b) := (ofIv_full (whk (by omega)) (whk hb) (by omega)).2
theorem mid_iv {a h : Nat} (h1 : 1 ≤ h) (h2 : a + 2 * h ≤ 8) : midI (ofIv a ((a + 2 * h : Nat) : Int)) = ofN ((a + h : Nat) : Int) := by
 have f := iv_full (show a ≤ a + 2 * h by omega) h2
 unfold midI
 rw [fairI_of f]
 have k1 : (ofIv (a : Int) ((a + 2 * h : Nat) : Int)).lo.k ≠ 2 := (ofN_fin (whk (by omega))).2.1
 have k2 : (ofIv (a : Int) ((a + 2 * h : Nat) : Int)).hi.k ≠ 2 := (ofN_fin (whk h2)).2.1
 rw [if_neg (by rintro (g | ⟨g, _⟩); exact absurd (f.2.symm.trans g) (by decide); exact k1 g), if_neg k1, if_neg k2]
 show mostN [ofN (a : Int), leastN [halfN (addN (ofN (a : Int)) (ofN ((a + 2 * h : Nat) : Int)) false) false, ofN ((a + 2 * h : Nat) : Int)]] = _
 rw [addN_of (whk (by omega)) (whk h2) (wh_small (by omega) (by omega)), show (a : Int) + ((a + 2 * h : Nat) : Int) = ((a + (a + 2 * h) : Nat) : Int) from by omega]
 exact mid_all ⟨a, by omega⟩ ⟨h, by omega⟩ h1 h2
theorem width_iv {a b : Nat} (h : a ≤ b) (hb : b ≤ 8) : widthI (ofIv a b) = ofN ((b - a : Nat) : Int) := by
 unfold widthI
 rw [fairI_of (iv_full h hb)]
 show subN (ofN (b : Int)) (ofN (a : Int)) true = _
 rw [subN_of (whk hb) (whk (by omega)) (wh_small (by omega) (by omega)), show (b : Int) - (a : Int) = ((b - a : Nat) : Int) from by omega]
theorem splits_iv {a h : Nat} (h1 : 1 ≤ h) (h2 : a + 2 * h ≤ 8) : splitsI (ofIv a ((a + 2 * h : Nat) : Int)) = true := by
 unfold splitsI
 rw [mid_iv h1 h2]
 show (decide (cmpN (ofN (a : Int)) (ofN ((a + h : Nat) : Int)) < 0) && decide (cmpN (ofN ((a + h : Nat) : Int)) (ofN ((a + 2 * h : Nat) : Int)) < 0)) = true
 rw [cmp_ofN (whk (by omega)) (whk (by omega)), cmp_ofN (whk (by omega)) (whk h2), if_pos (by omega), if_pos (by omega)]
 rfl
theorem halves_iv {a h : Nat} (h1 : 1 ≤ h) (h2 : a + 2 * h ≤ 8) : splitA (ofIv a ((a + 2 * h : Nat) : Int)) = ofIv a ((a + h : Nat) : Int) ∧ splitB (ofIv a ((a + 2 * h : Nat) : Int)) = ofIv ((a + h : Nat) : Int) ((a + h + h : Nat) : Int) := by
 obtain ⟨e1, e2, _, _⟩ := split_spec (ofIv_wf (whk (k := a) (by omega)) (whk h2)) (iv_full (show a ≤ a + 2 * h by omega) h2)
 rw [e1, e2, mid_iv h1 h2, show a + h + h = a + 2 * h from by omega]
 exact ⟨rfl, rfl⟩
def RuPr (p : Pr) : Prop := ∃ a b h : Nat, (h = 1 ∨ h = 2 ∨ h = 4 ∨ h = 8) ∧ a + h ≤ 8 ∧ ((p = ⟨ofIv a ((a + h : Nat) : Int), ofIv b ((b + h : Nat) : Int)⟩ ∧ b + h ≤ 8) ∨ (h ≤ 4 ∧ p = ⟨ofIv a ((a + h : Nat) : Int), ofIv b ((b + 2 * h : Nat) : Int)⟩ ∧ b + 2 * h ≤ 8))
def wdN (x : Iv) : Nat := if widthI x = ofN 8 then 8 else if widthI x = ofN 4 then 4 else if widthI x = ofN 2 then 2 else 1
def wtP (p : Pr) : Nat := 2 * wdN p.a * wdN p.b - 1
theorem wdN_iv {a h : Nat} (hh : h = 1 ∨ h = 2 ∨ h = 4 ∨ h = 8) (h2 : a + h ≤ 8) : wdN (ofIv a ((a + h : Nat) : Int)) = h := by
 unfold wdN
 rw [width_iv (show a ≤ a + h by omega) h2, show a + h - a = h from by omega]
 rcases hh with rfl | rfl | rfl | rfl <;> decide +kernel
theorem most_cmp : ∀ a : Fin 9, ∀ b : Fin 9, decide (cmpN (mostN [ofN (a.1 : Int), ofN (b.1 : Int)]) (ofN 1) ≤ 0) = decide (a.1 ≤ 1 ∧ b.1 ≤ 1) := by decide +kernel
theorem spl_same {a b h : Nat} (h1 : 1 ≤ h) (ha : a + 2 * h ≤ 8) (hb : b + 2 * h ≤ 8) :
  splP (ofN 1) ⟨ofIv a ((a + 2 * h : Nat) : Int), ofIv b ((b + 2 * h : Nat) : Int)⟩ = some (⟨ofIv ((a + h : Nat) : Int) ((a + h + h : Nat) : Int), ofIv b ((b + 2 * h : Nat) : Int)⟩, ⟨ofIv a ((a + h : Nat) : Int), ofIv b ((b + 2 * h : Nat) : Int)⟩) := by
 unfold splP
 dsimp only
 rw [splits_iv h1 ha, splits_iv h1 hb, (halves_iv h1 ha).1, (halves_iv h1 ha).2, width_iv (show a ≤ a + 2 * h by omega) ha, width_iv (show b ≤ b + 2 * h by omega) hb, show a + 2 * h - a = 2 * h from by omega, show b + 2 * h - b = 2 * h from by omega, show cmpN (ofN ((2 * h : Nat) : Int)) (ofN ((2 * h : Nat) : Int)) = 0 from by rw [cmp_ofN (whk (by omega)) (whk (by omega)), if_neg (by omega), if_neg (by omega)]]
 have := most_cmp ⟨2 * h, by omega⟩ ⟨2 * h, by omega⟩
 dsimp only at this
 rw [this, if_neg (by simp; omega), if_neg (by simp)]
theorem spl_two {a b h : Nat} (h1 : 1 ≤ h) (h4 : h ≤ 4) (hs : a + h ≤ 8) (hb : b + 2 * h ≤ 8) (hsp : splitsI (ofIv a ((a + h : Nat) : Int)) = true ∨ splitsI (ofIv a ((a + h : Nat) : Int)) = false) :
  splP (ofN 1) ⟨ofIv a ((a + h : Nat) : Int), ofIv b ((b + 2 * h : Nat) : Int)⟩ = some (⟨ofIv a ((a + h : Nat) : Int), ofIv ((b + h : Nat) : Int) ((b + h + h : Nat) : Int)⟩, ⟨ofIv a ((a + h : Nat) : Int), ofIv b ((b + h : Nat) : Int)⟩) := by
 unfold splP
 dsimp only
 rw [splits_iv h1 hb, (halves_iv h1 hb).1, (halves_iv h1 hb).2, width_iv (show a ≤ a + h by omega) hs, width_iv (show b ≤ b + 2 * h by omega) hb, show a + h - a = h from by omega, show b + 2 * h - b = 2 * h from by omega, show cmpN (ofN ((2 * h : Nat) : Int)) (ofN ((h : Nat) : Int)) = 1 from by rw [cmp_ofN (whk (by omega)) (whk (by omega)), if_neg (by omega), if_pos (by omega)]]
 have := most_cmp ⟨h, by omega⟩ ⟨2 * h, by omega⟩
 dsimp only at this
 rw [this, if_neg (by simp; omega), if_pos (by simp)]
theorem spl_leaf {a b : Nat} (ha : a + 1 ≤ 8) (hb : b + 1 ≤ 8) : splP (ofN 1) ⟨ofIv a ((a + 1 : Nat) : Int), ofIv b ((b + 1 : Nat) : Int)⟩ = none := by
 unfold splP
 dsimp only
 rw [width_iv (show a ≤ a + 1 by omega) ha, width_iv (show b ≤ b + 1 by omega) hb, show a + 1 - a = 1 from by omega, show b + 1 - b = 1 from by omega]
 have := most_cmp ⟨1, by omega⟩ ⟨1, by omega⟩
 dsimp only at this
 rw [this, if_pos (by simp)]
theorem ru_spl {p h l : Pr} (hp : RuPr p) (hs : splP (ofN 1) p = some (h, l)) : RuPr h ∧ RuPr l ∧ wtP h + wtP l + 1 ≤ wtP p := by
 obtain ⟨a, b, w, hw, ha, ⟨rfl, hb⟩ | ⟨w4, rfl, hb⟩⟩ := hp
 ·by_cases w1 : w = 1
  ·subst w1
   rw [spl_leaf ha hb] at hs
   cases hs
  ·obtain ⟨v, rfl⟩ : ∃ v, w = 2 * v := ⟨w / 2, by omega⟩
   have hv : v = 1 ∨ v = 2 ∨ v = 4 := by omega
   have hv' : v = 1 ∨ v = 2 ∨ v = 4 ∨ v = 8 := by omega
   rw [spl_same (by omega) ha hb] at hs
   cases hs
   refine ⟨⟨a + v, b, v, hv', by omega, .inr ⟨by omega, rfl, hb⟩⟩, ⟨a, b, v, hv', by omega, .inr ⟨by omega, rfl, hb⟩⟩, ?_⟩
   unfold wtP
   dsimp only
   rw [wdN_iv (h := 2 * v) (by omega) ha, wdN_iv (h := 2 * v) (by omega) hb, wdN_iv (a := a + v) hv' (by omega), wdN_iv (a := a) hv' (by omega)]
   rcases hv with rfl | rfl | rfl <;> decide
 ·have hv : w = 1 ∨ w = 2 ∨ w = 4 := by omega
  rw [spl_two (by omega) w4 ha hb (by cases splitsI (ofIv a ((a + w : Nat) : Int)) <;> simp)] at hs
  cases hs
  refine ⟨⟨a, b + w, w, hw, ha, .inl ⟨rfl, by omega⟩⟩, ⟨a, b, w, hw, ha, .inl ⟨rfl, by omega⟩⟩, ?_⟩
  unfold wtP
  dsimp only
  rw [wdN_iv (h := 2 * w) (by omega) hb, wdN_iv (a := b + w) hw (by omega), wdN_iv (a := b) hw (by omega), wdN_iv (a := a) hw ha]
  rcases hv with rfl | rfl | rfl <;> decide
theorem ru_wt {p : Pr} (hp : RuPr p) : 1 ≤ wtP p := by
 obtain ⟨a, b, w, hw, ha, ⟨rfl, hb⟩ | ⟨w4, rfl, hb⟩⟩ := hp
 ·unfold wtP
  dsimp only
  rw [wdN_iv hw ha, wdN_iv hw hb]
  rcases hw with rfl | rfl | rfl | rfl <;> decide
 ·have hv : w = 1 ∨ w = 2 ∨ w = 4 := by omega
  unfold wtP
  dsimp only
  rw [wdN_iv hw ha, wdN_iv (h := 2 * w) (by omega) hb]
  rcases hv with rfl | rfl | rfl <;> decide
theorem ru_a (x y : Int) (a h : Nat) (hx : x = (a : Int)) (hy : y = ((a + h : Nat) : Int)) (ha : a = 0) (hh : h = 8) : RuPr ⟨ofIv x y, ofIv x y⟩ := by
 subst hx hy
 exact ⟨a, a, h, by omega, by omega, .inl ⟨rfl, by omega⟩⟩
theorem ru_b (p : Pr) (h1 : wdN p.a = 8) (h2 : wdN p.b = 8) : wtP p = 127 := by
 unfold wtP
 rw [h1, h2]
theorem ru_c (x y : Int) (a h : Nat) (hx : x = (a : Int)) (hy : y = ((a + h : Nat) : Int)) (ha : a = 0) (hh : h = 8) : wdN (ofIv x y) = 8 := by
 subst hx hy
 rw [wdN_iv (by omega) (by omega), hh]
theorem ru_all : RuPr ⟨ofIv 0 8, ofIv 0 8⟩ ∧ wtP ⟨ofIv 0 8, ofIv 0 8⟩ = 127 :=
 ⟨ru_a 0 8 0 8 rfl (by omega) rfl rfl, ru_b _ (ru_c 0 8 0 8 rfl (by omega) rfl rfl) (ru_c 0 8 0 8 rfl (by omega) rfl rfl)⟩
theorem ru_form {p : Pr} (hp : RuPr p) : ∃ a0 a1 b0 b1 : Nat, p = ⟨ofIv a0 a1, ofIv b0 b1⟩ ∧ a0 ≤ a1 ∧ a1 ≤ 8 ∧ b0 ≤ b1 ∧ b1 ≤ 8 ∧ (splP (ofN 1) p = none → a1 = a0 + 1 ∧ b1 = b0 + 1) := by
 obtain ⟨a, b, w, hw, ha, ⟨rfl, hb⟩ | ⟨w4, rfl, hb⟩⟩ := hp
 ·refine ⟨a, a + w, b, b + w, rfl, by omega, ha, by omega, hb, fun hn => ?_⟩
  by_cases w1 : w = 1
  ·subst w1; exact ⟨rfl, rfl⟩
  ·obtain ⟨v, rfl⟩ : ∃ v, w = 2 * v := ⟨w / 2, by omega⟩
   rw [spl_same (by omega) ha hb] at hn
   cases hn
 ·refine ⟨a, a + w, b, b + 2 * w, rfl, by omega, ha, by omega, hb, fun hn => ?_⟩
  rw [spl_two (by omega) w4 ha hb (by cases splitsI (ofIv a ((a + w : Nat) : Int)) <;> simp)] at hn
  cases hn
def RuX (r : Int) (g : Int) (X : PvX) : Prop := X.s = zero ∧ X.i = ofIv 0 0 ∧ X.xs = runT r 8 ∧ X.t = zero ∧ X.g = ofN g ∧ X.f = ofN 1
theorem ru_allX {r g : Int} {X : PvX} (h : RuX r g X) : allX X = ofIv 0 8 := by
 obtain ⟨h1, h2, h3, _⟩ := h
 unfold allX
 rw [h1, h3, run_end, ← ofN_zero]
 exact (ofIv_full (whk (k := 0) (by omega)) (whk (k := 8) (by omega)) (by omega)).1
theorem ru_out {r g : Int} {X : PvX} (h : RuX r g X) (hr1 : 1 ≤ r) (hr2 : r ≤ 1000) (hg0 : 0 ≤ g) (hg : g ≤ 8) {a0 a1 b0 b1 : Nat} (ha : a0 ≤ a1) (ha8 : a1 ≤ 8) (hb : b0 ≤ b1) (hb8 : b1 ≤ 8) (ho : outX X ⟨ofIv a0 a1, ofIv b0 b1⟩ = false) : b0 ≤ a1 ∧ g ≤ (b1 : Int) - a0 := by
 obtain ⟨h1, h2, h3, h4, h5, h6⟩ := h
 unfold outX outP at ho
 dsimp only at ho
 rw [h1, h2, h3, h5] at ho
 split at ho
 ·cases ho
 ·simp only [Bool.or_eq_false_iff] at ho
  obtain ⟨⟨o1, o2⟩, _⟩ := ho
  constructor
  ·by_cases hlt : a1 < b0
   ·rw [run_moves hr1 hr2 ha hb ha8 hb8 hlt] at o2
    cases o2
   ·omega
  ·change decide (cmpN (subN (ofN (b1 : Int)) (ofN (a0 : Int)) true) (ofN g) < 0) = false at o1
   rw [subN_of (whk hb8) (whk (by omega)) (wh_small (by omega) (by omega)), cmp_ofN (wh_small (by omega) (by omega)) (wh_small (by omega) (by omega))] at o1
   by_cases hlt : (b1 : Int) - (a0 : Int) < g
   ·rw [if_pos hlt] at o1; simp at o1
   ·omega
theorem ru_inv {r g : Int} {X : PvX} (h : RuX r g X) (k : Nat) :
  (∀ p ∈ (lkN X (allX X) k).1, RuPr p) ∧ (∀ c ∈ (lkN X (allX X) k).2, RuPr c.p ∧ c.kd = 0 ∧ outX X c.p = false ∧ splP (ofN 1) c.p = none) ∧ ((lkN X (allX X) k).1 = [] ∨ ((lkN X (allX X) k).1.map wtP).sum + k ≤ 127) ∧ (lkN X (allX X) k).2.length ≤ k := by
 unfold lkN
 rw [ru_allX h, h.2.2.2.2.2]
 have := lookN_ends (out := outX X) (spl := splP (ofN 1)) RuPr wtP (fun p h l hp hs => ru_spl hp hs) (fun p hp => ru_wt hp) ⟨ofIv 0 8, ofIv 0 8⟩ ru_all.1 k
 rw [ru_all.2] at this
 exact this
theorem ru_len {r g : Int} {X : PvX} (h : RuX r g X) (k : Nat) : (lkN X (allX X) k).1.length ≤ 127 := by
 obtain ⟨h1, _, h3, _⟩ := ru_inv h k
 rcases h3 with h3 | h3
 ·rw [h3]; simp
 ·have : ∀ l : List Pr, (∀ p ∈ l, RuPr p) → l.length ≤ (l.map wtP).sum := by
   intro l
   induction l with
   | nil => intro _; simp
   | cons p l ih =>
    intro hl
    have a := ru_wt (hl p (by simp))
    have b := ih fun q hq => hl q (by simp [hq])
    simp only [List.length_cons, List.map_cons, List.sum_cons]
    omega
  have := this _ h1
  omega
theorem runs_a {r : Int} {X : PvX} (h : RuX r 2 X) (hr1 : 1 ≤ r) (hr2 : r ≤ 1000) {bud k : Nat} {l : List Cl} (hbud : bud ≤ 2000) (hR : PvRes X bud k l) :
  l.length ≤ 3000 ∧ ∀ c ∈ l, c.kd = 0 → ¬ 0 < cmpN c.p.b.lo c.p.a.hi := by
 cases hp : paveOk X with
 | false =>
  obtain ⟨rfl, rfl⟩ := hR.1 hp
  exact ⟨Nat.zero_le _, fun c hc => by cases hc⟩
 | true =>
  obtain ⟨g1, g2, g3, rfl⟩ := hR.2 hp
  obtain ⟨i1, i2, i3, i4⟩ := ru_inv h k
  have i5 := ru_len h k
  refine ⟨?_, fun c hc hk => ?_⟩
  ·unfold restC
   rw [List.length_append, List.length_map, List.length_reverse]
   omega
  ·unfold restC at hc
   rcases List.mem_append.1 hc with hc | hc
   ·obtain ⟨p1, _, p3, _⟩ := i2 c hc
    obtain ⟨p, kd⟩ := c
    dsimp only at p1 p3 ⊢
    obtain ⟨a0, a1, b0, b1, rfl, ha, ha8, hb, hb8, _⟩ := ru_form p1
    have := (ru_out h hr1 hr2 (by omega) (by omega) ha ha8 hb hb8 p3).1
    show ¬ 0 < cmpN (ofN (b0 : Int)) (ofN (a1 : Int))
    rw [cmp_ofN (whk (by omega)) (whk ha8)]
    split
    ·omega
    ·rw [if_neg (by omega)]; omega
   ·obtain ⟨p, hp', rfl⟩ := List.mem_map.1 hc
    exact absurd (show (1 : Int) = 0 from hk) (by decide)
theorem runs_b {r : Int} {X : PvX} (h : RuX r 3 X) (hr1 : 1 ≤ r) (hr2 : r ≤ 1000) {k : Nat} {l : List Cl} (hR : PvRes X 2000 k l) : l = [] := by
 cases hp : paveOk X with
 | false => exact (hR.1 hp).1
 | true =>
  obtain ⟨g1, g2, g3, rfl⟩ := hR.2 hp
  have hk : k < 2000 := by
   rcases Nat.lt_or_ge k 2000 with hk | hk
   ·exact hk
   ·exfalso
    have e := g2 127 (by omega)
    obtain ⟨i1, _, i3, _⟩ := ru_inv h 127
    rcases i3 with i3 | i3
    ·exact e i3
    ·cases hl : (lkN X (allX X) 127).1 with
     | nil => exact e hl
     | cons p q =>
      rw [hl] at i1 i3
      have := ru_wt (i1 p (by simp))
      simp only [List.map_cons, List.sum_cons] at i3
      omega
  have hs := g3 hk
  obtain ⟨_, i2, _, _⟩ := ru_inv h k
  have hcs : (lkN X (allX X) k).2 = [] := by
   cases hl : (lkN X (allX X) k).2 with
   | nil => rfl
   | cons c q =>
    exfalso
    obtain ⟨p1, _, p3, p4⟩ := i2 c (by rw [hl]; simp)
    obtain ⟨p, kd⟩ := c
    dsimp only at p1 p3 p4
    obtain ⟨a0, a1, b0, b1, rfl, ha, ha8, hb, hb8, hn⟩ := ru_form p1
    obtain ⟨n1, n2⟩ := hn p4
    obtain ⟨o1, o2⟩ := ru_out h hr1 hr2 (by omega) (by omega) ha ha8 hb hb8 p3
    omega
  unfold restC
  rw [hs, hcs]
  rfl
end Go.Proofs.Yteabdeohhmbclaa.Wk
