/- Walk: peloruslaw20.PavingRuns returns true, for every rate and every budget. -/
import Derived.Test.YteabdeohhmbclaaRuWr
namespace Go.Proofs.Yteabdeohhmbclaa.Wk
open Go.RowKit Go.Proofs.Pl Go.Proofs.YteabdeohhmbclaaW.PrintLast
set_option linter.unusedSimpArgs false
set_option linter.unusedVariables false

section
variable {P : Program} {md : Region.Mode} {ops : Array Oper} {Q : Exit → Act → World → Prop} {S : World → Prop} {ds : List Nat} {oi : Oper} {fuel : Nat} {l : Array Bool} {a : Act} {w : World}
theorem pux (i : Nat) (N : Tmp) (l' : Array Bool) (v : Value) (a' : Act) (hy : ∀ w, (execOp a.eval oi).run P w = .ok (.value v) w) (ha : a.put (some N) v = a') (h : wpAnyLast P md ops Q S ds fuel l' a' w) (hi : ops[i]? = some oi := by rfl) (hN : oi.dst = some N := by rfl) (hc : anyB md ops l l' i = true := by as_aux_lemma => kernel_rfl) (hQ : ∀ c a w, Q (.panic c) (a.put oi.dst v) w → Q (.panic c) a w := by exact fun _ _ _ h => h) (hw : Region.wanted oi (yielded ops a.tmps) = true := by rfl) : wpAnyLast P md ops Q S ds (fuel + 1) l a w := pure_ l' hi hN hc hQ (.inl ⟨hw, hy⟩) ha h
theorem tax (i : Nat) (N : Tmp) (l' : Array Bool) (hi : ops[i]? = some oi) (v : Value) (a' : Act) (hS : S w) (hy : YieldsIf P ops S oi v a) (ha : a.put (some N) v = a') (h : wpAnyLast P md ops Q S ds fuel l' a' w) (hN : oi.dst = some N := by rfl) (hc : takeB md ops ds l l' i = true := by as_aux_lemma => kernel_rfl) (hQ : ∀ c a w, Q (.panic c) (a.put oi.dst v) w → Q (.panic c) a w := by exact fun _ _ _ h => h) : wpAnyLast P md ops Q S ds (fuel + 1) l a w := take_ l' hi hN hc hQ hy hS ha h
end
structure RuJ (w0 w1 : World) (ux uy vx vy : Value) (xs ys : List Slc) (wr : World) : Prop where
  o : Blk wr w1.heap.size 26 #[.b false, .i 0, .b false, .u 0, .i 0, .i 0, .b false, .u 0, .i 0]
  x : Blk wr (w1.heap.size + 1) 29 #[.i 0, .b false, .u 0, .i 0, .b false, .i 0, .b false, .u 0, .i 0, .i 0, .b false, .u 0, .i 0, ux]
  y : Blk wr (w1.heap.size + 2) 29 #[.i 0, .b false, .u 0, .i 0, .b false, .i 0, .b false, .u 0, .i 0, .i 0, .b false, .u 0, .i 0, uy]
  px : OwnT wr w0.heap.size vx xs
  py : OwnT wr w0.heap.size vy ys
  ne : ∀ b, vx.ownBlock = some b → vy.ownBlock ≠ some b
  bel : Below w0.heap.size w0 wr
  base : w0.heap.size ≤ w1.heap.size
section
variable {w0 w1 wr w' : World} {ux uy vx vy : Value} {xs ys : List Slc}
theorem RuJ.call (h : RuJ w0 w1 ux uy vx vy xs ys wr) (hb : Below wr.heap.size wr w') : RuJ w0 w1 ux uy vx vy xs ys w' :=
  ⟨h.o.call hb, h.x.call hb, h.y.call hb, OwnG.call h.px hb, OwnG.call h.py hb, h.ne, bl_trans h.bel hb, h.base⟩
theorem RuJ.alloc (h : RuJ w0 w1 ux uy vx vy xs ys wr) (ob : Obj) : RuJ w0 w1 ux uy vx vy xs ys (wr.alloc ob) :=
  ⟨h.o.alloc ob, h.x.alloc ob, h.y.alloc ob, OwnG.alloc h.px ob, OwnG.alloc h.py ob, h.ne, bl_alloc h.bel ob, h.base⟩
theorem RuJ.drew (h : RuJ w0 w1 ux uy vx vy xs ys wr) : RuJ w0 w1 ux uy vx vy xs ys wr.drew :=
  ⟨h.o.drew, h.x.drew, h.y.drew, OwnG.drew h.px, OwnG.drew h.py, h.ne, bl_drew h.bel, h.base⟩
theorem ne_app {v v' u : Value} {N : Nat} (hv : v'.ownBlock = v.ownBlock ∨ v'.ownBlock = some N) (hne : ∀ b, v.ownBlock = some b → u.ownBlock ≠ some b) (hu : ∀ b, u.ownBlock = some b → b < N) : ∀ b, v'.ownBlock = some b → u.ownBlock ≠ some b := fun b hb hc => by
  rcases hv with h | h
  · exact hne b (h.symm.trans hb) hc
  · rw [h] at hb
    cases hb
    exact absurd (hu _ hc) (Nat.lt_irrefl _)
theorem RuJ.appX {v' : Value} {zs : List Slc} (h : RuJ w0 w1 ux uy vx vy xs ys wr) (hp : OwnT w' w0.heap.size v' (xs ++ zs)) (hg : wr.grownBy w' vx.ownBlock) (hat : v'.ownBlock = vx.ownBlock ∨ v'.ownBlock = some wr.heap.size) : RuJ w0 w1 ux uy v' vy (xs ++ zs) ys w' :=
  ⟨h.o.grown hg (fun e => by obtain ⟨cur, hcur⟩ := h.px.cells e.symm; exact blk_ne h.o hcur (by decide) rfl),
   h.x.grown hg (fun e => by obtain ⟨cur, hcur⟩ := h.px.cells e.symm; exact blk_ne h.x hcur (by decide) rfl),
   h.y.grown hg (fun e => by obtain ⟨cur, hcur⟩ := h.px.cells e.symm; exact blk_ne h.y hcur (by decide) rfl), hp,
   OwnG.same h.py fun g hq => hg.block g (h.py.lt g hq).2 fun e => h.ne g e.symm hq,
   ne_app hat h.ne fun b hb => (h.py.lt b hb).2, h.bel.grown hg h.bel.size fun k hk => (h.px.lt k hk).1, h.base⟩
theorem RuJ.appY {v' : Value} {zs : List Slc} (h : RuJ w0 w1 ux uy vx vy xs ys wr) (hp : OwnT w' w0.heap.size v' (ys ++ zs)) (hg : wr.grownBy w' vy.ownBlock) (hat : v'.ownBlock = vy.ownBlock ∨ v'.ownBlock = some wr.heap.size) : RuJ w0 w1 ux uy vx v' xs (ys ++ zs) w' :=
  ⟨h.o.grown hg (fun e => by obtain ⟨cur, hcur⟩ := h.py.cells e.symm; exact blk_ne h.o hcur (by decide) rfl),
   h.x.grown hg (fun e => by obtain ⟨cur, hcur⟩ := h.py.cells e.symm; exact blk_ne h.x hcur (by decide) rfl),
   h.y.grown hg (fun e => by obtain ⟨cur, hcur⟩ := h.py.cells e.symm; exact blk_ne h.y hcur (by decide) rfl),
   OwnG.same h.px fun g hq => hg.block g (h.px.lt g hq).2 fun e => h.ne g hq e.symm, hp,
   fun b h1 h2 => ne_app (u := vx) hat (fun b p q => h.ne b q p) (fun b hb => (h.px.lt b hb).2) b h2 h1, h.bel.grown hg h.bel.size fun k hk => (h.py.lt k hk).1, h.base⟩
theorem RuJ.setX (h : RuJ w0 w1 ux uy vx vy xs ys wr) : RuJ w0 w1 vx uy vx vy xs ys (wr.setCell ⟨w1.heap.size + 1, 13, none⟩ vx) :=
  ⟨h.o.far (by show w1.heap.size ≠ w1.heap.size + 1; omega) _, by have g := h.x.set_ 13 vx; exact g, h.y.far (by show w1.heap.size + 2 ≠ w1.heap.size + 1; omega) _,
   OwnG.same h.px fun g hg => Below.heap_setCell _ _ _ g (by obtain ⟨cur, hcur⟩ := h.px.cells hg; exact blk_ne hcur h.x (by decide)),
   OwnG.same h.py fun g hg => Below.heap_setCell _ _ _ g (by obtain ⟨cur, hcur⟩ := h.py.cells hg; exact blk_ne hcur h.x (by decide)), h.ne, bl_set h.bel (by show w0.heap.size ≤ w1.heap.size + 1; have := h.base; omega) _, h.base⟩
theorem RuJ.setY (h : RuJ w0 w1 ux uy vx vy xs ys wr) : RuJ w0 w1 ux vy vx vy xs ys (wr.setCell ⟨w1.heap.size + 2, 13, none⟩ vy) :=
  ⟨h.o.far (by show w1.heap.size ≠ w1.heap.size + 2; omega) _, h.x.far (by show w1.heap.size + 1 ≠ w1.heap.size + 2; omega) _, by have g := h.y.set_ 13 vy; exact g,
   OwnG.same h.px fun g hg => Below.heap_setCell _ _ _ g (by obtain ⟨cur, hcur⟩ := h.px.cells hg; exact blk_ne hcur h.y (by decide)),
   OwnG.same h.py fun g hg => Below.heap_setCell _ _ _ g (by obtain ⟨cur, hcur⟩ := h.py.cells hg; exact blk_ne hcur h.y (by decide)), h.ne, bl_set h.bel (by show w0.heap.size ≤ w1.heap.size + 2; have := h.base; omega) _, h.base⟩
end
theorem OwnT.slT {w : World} {base n c : Nat} {A : Option Addr} {xs : List Slc} (h : OwnT w base (.slice A n c) xs) : SlT w w.heap.size A n xs := by
  obtain ⟨A', c', e, hs⟩ := h.sl
  injection e with e1 e2 e3
  subst e1 e2 e3
  exact hs
def ruX (A : Option Addr) (n c : Nat) (r : Int) (B : Option Addr) (m d : Nat) (g f : Num) : PvX := ⟨⟨0, false, 0, 0⟩, ⟨false, ⟨0, false, 0, 0⟩, ⟨0, false, 0, 0⟩⟩, A, n, c, runT r 8, ⟨0, false, 0, 0⟩, ⟨false, ⟨0, false, 0, 0⟩, ⟨0, false, 0, 0⟩⟩, B, m, d, runT 0 8, g, f⟩
theorem ruX_ok {A : Option Addr} {n c : Nat} {r : Int} {B : Option Addr} {m d : Nat} (g f : Num) {w0 w1 W : World} (h1 : 1 ≤ r) (h2 : r ≤ 1000) (h : RuJ w0 w1 (.slice A n c) (.slice B m d) (.slice A n c) (.slice B m d) (runT r 8) (runT 0 8) W) : PvOk W W.heap.size (ruX A n c r B m d g f) :=
  ⟨OwnT.slT h.px, OwnT.slT h.py, run_wf (by omega) h2, run_wf (by omega) (by omega)⟩
theorem ruX_is {A : Option Addr} {n c : Nat} {r : Int} {B : Option Addr} {m d : Nat} {g f : Num} {z : Int} (hg : g = ofN z) (hf : f = ofN 1) : RuX r z (ruX A n c r B m d g f) := ⟨rfl, rfl, rfl, rfl, hg, hf⟩
def RuL (w0 w1 : World) (r : Int) (v : Value) (wr : World) : Prop := ∃ k : Nat, k ≤ 8 ∧ v = .i k ∧ ∃ vx vy, RuJ w0 w1 vx vy vx vy (runT r k) (runT 0 k) wr
theorem runs_pre (w0 w1 : World) (r : Int) (h : Below w0.heap.size w0 w1) : RuL w0 w1 r (.i 0) (((w1.alloc (.cells #[.b false, .i 0, .b false, .u 0, .i 0, .i 0, .b false, .u 0, .i 0] 26)).alloc (.cells #[.i 0, .b false, .u 0, .i 0, .b false, .i 0, .b false, .u 0, .i 0, .i 0, .b false, .u 0, .i 0, .slice none 0 0] 29)).alloc (.cells #[.i 0, .b false, .u 0, .i 0, .b false, .i 0, .b false, .u 0, .i 0, .i 0, .b false, .u 0, .i 0, .slice none 0 0] 29)) :=
  ⟨0, by omega, rfl, .slice none 0 0, .slice none 0 0, ((Blk.new w1 _ _).alloc _).alloc _, (Blk.new1 w1 _ _ _).alloc _, Blk.new2 w1 _ _ _ _, OwnG.nil _ _, OwnG.nil _ _, (fun b h => by cases h), bl_alloc (bl_alloc (bl_alloc h _) _) _, h.size⟩
theorem wrap_z {n : Int} (h0 : -9223372036854775808 ≤ n) (h1 : n < 9223372036854775808) : IntKind.i64.wrap n = n := by
  unfold IntKind.wrap
  simp [IntKind.bits, IntKind.signed]
  omega
set_option maxRecDepth 100000 in
set_option maxHeartbeats 16000000 in
theorem runs_calls (r bi : Int) (w : World) :
    Calls Try.prog 5 #[.i r, .i bi] w fun e w' => e = .returned (.b true) ∧ Below w.heap.size w w' := by
  have HB0 := Below.refl w.heap.size w
  by_cases hr1 : r < 1
  · skip
    go_enter Try.func5, Try.ntmps5
    go_wp2_with (go_at_call 6; (with_reducible refine (awake20_calls _).mono ?_); rintro e' w0 ⟨rfl, hb⟩; have HB1 := bl_trans HB0 hb; clear hb)
    all_goals (go_ret; exact ⟨rfl, HB1⟩)
  by_cases hr2 : 1000 < r
  · skip
    go_enter Try.func5, Try.ntmps5
    go_wp2_with (go_at_call 6; (with_reducible refine (awake20_calls _).mono ?_); rintro e' w0 ⟨rfl, hb⟩; have HB1 := bl_trans HB0 hb; clear hb)
    all_goals (go_ret; exact ⟨rfl, HB1⟩)
  by_cases hb1 : bi < 0
  · skip
    go_enter Try.func5, Try.ntmps5
    go_wp2_with (go_at_call 6; (with_reducible refine (awake20_calls _).mono ?_); rintro e' w0 ⟨rfl, hb⟩; have HB1 := bl_trans HB0 hb; clear hb)
    all_goals (go_ret; exact ⟨rfl, HB1⟩)
  by_cases hb2 : 2000 < bi
  · skip
    go_enter Try.func5, Try.ntmps5
    go_wp2_with (go_at_call 6; (with_reducible refine (awake20_calls _).mono ?_); rintro e' w0 ⟨rfl, hb⟩; have HB1 := bl_trans HB0 hb; clear hb)
    all_goals (go_ret; exact ⟨rfl, HB1⟩)
  obtain ⟨bud, rfl⟩ : ∃ b : Nat, bi = (b : Int) := ⟨bi.toNat, by omega⟩
  have hbud : bud ≤ 2000 := by omega
  have hr1' : 1 ≤ r := by omega
  have hr2' : r ≤ 1000 := by omega
  have HF1 := of_calls 1 (by omega) (by omega)
  have HG2 := of_calls 2 (by omega) (by omega)
  have HG3 := of_calls 3 (by omega) (by omega)
  obtain ⟨f_, hf⟩ : ∃ x, x = ofN 1 := ⟨_, rfl⟩
  obtain ⟨p_, hp⟩ : ∃ x, x = ofN 2 := ⟨_, rfl⟩
  obtain ⟨q_, hq⟩ : ∃ x, x = ofN 3 := ⟨_, rfl⟩
  rw [← hf] at HF1
  rw [← hp] at HG2
  rw [← hq] at HG3
  obtain ⟨f0, f1, f2, f3⟩ := f_
  obtain ⟨p0, p1, p2, p3⟩ := p_
  obtain ⟨q0, q1, q2, q3⟩ := q_
  dsimp only at HF1 HG2 HG3
  replace HF1 := Lib.hid HF1
  replace HG2 := Lib.hid HG2
  replace HG3 := Lib.hid HG3
  replace hf := Lib.hid hf
  replace hp := Lib.hid hp
  replace hq := Lib.hid hq
  go_enter Try.func5, Try.ntmps5
  go_wp2_with (first
    | (go_at_call 6; (with_reducible refine (awake20_calls _).mono ?_); rintro e' w0 ⟨rfl, hb⟩; have HB1 := bl_trans HB0 hb; clear hb)
    | (go_at_call 17; (with_reducible refine (ofI_0_0 _).mono ?_); rintro e w1 ⟨rfl, hb⟩; have HL0 := Lib.hid (runs_pre w w1 r (bl_trans HB1 hb)); clear hb HB1 HB0))
  go_loopw [9] (fun v wr => RuL w w1 r v wr) (fun v _ => 8 - (intOf v).toNat)
  case atStart => exact HL0.out
  case round =>
    obtain ⟨k, hk, rfl, vx, vy, HJ⟩ := hrel
    clear HL0
    obtain ⟨A, n, c, rfl⟩ : ∃ A n c, vx = .slice A n c := (by obtain ⟨A, c, e⟩ := HJ.px.form; exact ⟨A, _, c, e⟩)
    obtain ⟨B, m, d, rfl⟩ : ∃ A n c, vy = .slice A n c := (by obtain ⟨A, c, e⟩ := HJ.py.form; exact ⟨A, _, c, e⟩)
    by_cases hlt : k < 8
    · have bk := mul_bd (show 0 ≤ r by omega) hr2' (show (0 : Int) ≤ (k : Int) by omega) (by omega)
      have bk1 := mul_bd (show 0 ≤ r by omega) hr2' (show (0 : Int) ≤ (k : Int) + 1 by omega) (by omega)
      have hmono : r * (k : Int) ≤ r * ((k : Int) + 1) := Int.mul_le_mul_of_nonneg_left (by omega) (by omega)
      have hw1 : IntKind.i64.wrap ((k : Int) + 1) = (k : Int) + 1 := wrap_z (by omega) (by omega)
      have HE := fun W => of_calls (IntKind.i64.wrap ((k : Int) + 1)) (by rw [hw1]; omega) (by rw [hw1]; omega) W
      have HA := fun W => ofI_calls (x := IntKind.i64.wrap (r * (k : Int))) (y := IntKind.i64.wrap (r * (IntKind.i64.wrap ((k : Int) + 1)))) (by rw [wrap_z (by omega) (by omega)]; omega) (by rw [hw1, wrap_z (by omega) (by omega), wrap_z (by omega) (by omega)]; exact hmono) (by rw [hw1, wrap_z (by omega) (by omega)]; omega) W
      have HO := fun W => ofI_calls (x := IntKind.i64.wrap (r * (IntKind.i64.wrap ((k : Int) + 1)))) (y := IntKind.i64.wrap (r * (IntKind.i64.wrap ((k : Int) + 1)))) (by rw [hw1, wrap_z (by omega) (by omega)]; omega) (Int.le_refl _) (by rw [hw1, wrap_z (by omega) (by omega)]; omega) W
      have hq1 : ofN (IntKind.i64.wrap ((k : Int) + 1)) = (runS r k).e := by rw [hw1]; rfl
      have hq2 : ofIv (IntKind.i64.wrap (r * (k : Int))) (IntKind.i64.wrap (r * (IntKind.i64.wrap ((k : Int) + 1)))) = (runS r k).a := by rw [hw1, wrap_z (by omega) (by omega), wrap_z (by omega) (by omega)]; rfl
      have hq3 : ofIv (IntKind.i64.wrap (r * (IntKind.i64.wrap ((k : Int) + 1)))) (IntKind.i64.wrap (r * (IntKind.i64.wrap ((k : Int) + 1)))) = (runS r k).o := by rw [hw1, wrap_z (by omega) (by omega)]; rfl
      have hq4 : (runS 0 k) = ⟨(runS r k).e, ⟨false, ⟨0, false, 0, 0⟩, ⟨0, false, 0, 0⟩⟩, ⟨false, ⟨0, false, 0, 0⟩, ⟨0, false, 0, 0⟩⟩⟩ := by
        unfold runS; rw [Int.zero_mul, Int.zero_mul]; rfl
      rw [hq1] at HE
      rw [hq2] at HA
      rw [hq3] at HO
      have hsx : Hid (runT r (k + 1) = runT r k ++ [runS r k]) := runT_succ r k
      have hsy : Hid (runT 0 (k + 1) = runT 0 k ++ [runS 0 k]) := runT_succ 0 k
      rw [hq4] at hsy
      generalize hsl : runS r k = sl at HE HA HO hsx hsy
      obtain ⟨⟨e0, e1, e2, e3⟩, ⟨a0, ⟨a1, a2, a3, a4⟩, ⟨a5, a6, a7, a8⟩⟩, ⟨o0, ⟨o1, o2, o3, o4⟩, ⟨o5, o6, o7, o8⟩⟩⟩ := sl
      dsimp only at HE HA HO hsx hsy
      replace HE := Lib.hid HE
      replace HA := Lib.hid HA
      replace HO := Lib.hid HO
      clear hq1 hq2 hq3 hq4 hsl hw1 hmono bk bk1
      go_wp2_with fail
      replace HJ := HJ.drew
      have c13 := HJ.x.cell 13
      refine start_ (n := 27) (S := fun w' => w'.cell? ⟨w1.heap.size + 1, 13, none⟩ = some (.slice A n c) ∧ True) (ds := [26]) (bq 27 0) (by kernel_rfl) rfl rfl ⟨c13, trivial⟩ (fun hHeld => ?_)
      generalize hWW : World.drew _ = w2 at HJ hHeld c13 ⊢
      clear hWW
      refine pure_ (i := 0) (N := some 44) (v := ?_) (a' := ?_) (bq 27 1) rfl rfl (by as_aux_lemma => kernel_rfl) (fun _ _ _ h => h) (Or.inl ⟨by rfl, ?_⟩) ?_ ?_
      rotate_left
      · intro w'
        go_simp
        with_reducible rfl
      rotate_left
      · simp only [Act.put, pA, pB, pC]
        rfl
      refine take_ (i := 1) (N := some 45) (v := ?_) (a' := ?_) (bq 27 3) rfl rfl (by as_aux_lemma => kernel_rfl) (fun _ _ _ h => h) (Or.inl ⟨by rfl, ?_⟩) hHeld ?_ ?_
      rotate_left
      · rintro w' ⟨s0_⟩
        go_simp
        with_reducible rfl
      rotate_left
      · simp only [Act.put, pA, pB, pC]
        rfl
      refine pure_ (i := 2) (N := some 46) (v := ?_) (a' := ?_) (bq 27 7) rfl rfl (by as_aux_lemma => kernel_rfl) (fun _ _ _ h => h) (Or.inl ⟨by rfl, ?_⟩) ?_ ?_
      rotate_left
      · intro w'
        go_simp
        with_reducible rfl
      rotate_left
      · simp only [Act.put, pA, pB, pC]
        rfl
      refine pure_ (i := 3) (N := some 47) (v := ?_) (a' := ?_) (bq 27 15) rfl rfl (by as_aux_lemma => kernel_rfl) (fun _ _ _ h => h) (Or.inl ⟨by rfl, ?_⟩) ?_ ?_
      rotate_left
      · intro w'
        go_simp
        with_reducible rfl
      rotate_left
      · simp only [Act.put, pA, pB, pC]
        rfl
      refine pure_ (i := 5) (N := some 49) (v := ?_) (a' := ?_) (bq 27 47) rfl rfl (by as_aux_lemma => kernel_rfl) (fun _ _ _ h => h) (Or.inl ⟨by rfl, ?_⟩) ?_ ?_
      rotate_left
      · intro w'
        go_simp
        with_reducible rfl
      rotate_left
      · simp only [Act.put, pA, pB, pC]
        rfl
      refine pure_ (i := 6) (N := some 50) (v := ?_) (a' := ?_) (bq 27 111) rfl rfl (by as_aux_lemma => kernel_rfl) (fun _ _ _ h => h) (Or.inl ⟨by rfl, ?_⟩) ?_ ?_
      rotate_left
      · intro w'
        go_simp
        with_reducible rfl
      rotate_left
      · simp only [Act.put, pA, pB, pC]
        rfl
      refine pure_ (i := 7) (N := some 51) (v := ?_) (a' := ?_) (bq 27 239) rfl rfl (by as_aux_lemma => kernel_rfl) (fun _ _ _ h => h) (Or.inl ⟨by rfl, ?_⟩) ?_ ?_
      rotate_left
      · intro w'
        go_simp
        with_reducible rfl
      rotate_left
      · simp only [Act.put, pA, pB, pC]
        rfl
      refine pure_ (i := 8) (N := some 52) (v := ?_) (a' := ?_) (bq 27 495) rfl rfl (by as_aux_lemma => kernel_rfl) (fun _ _ _ h => h) (Or.inl ⟨by rfl, ?_⟩) ?_ ?_
      rotate_left
      · intro w'
        go_simp
        with_reducible rfl
      rotate_left
      · simp only [Act.put, pA, pB, pC]
        rfl
      refine pure_ (i := 9) (N := some 53) (v := ?_) (a' := ?_) (bq 27 1007) rfl rfl (by as_aux_lemma => kernel_rfl) (fun _ _ _ h => h) (Or.inl ⟨by rfl, ?_⟩) ?_ ?_
      rotate_left
      · intro w'
        go_simp
        with_reducible rfl
      rotate_left
      · simp only [Act.put, pA, pB, pC]
        rfl
      refine pure_ (i := 10) (N := some 54) (v := ?_) (a' := ?_) (bq 27 2031) rfl rfl (by as_aux_lemma => kernel_rfl) (fun _ _ _ h => h) (Or.inl ⟨by rfl, ?_⟩) ?_ ?_
      rotate_left
      · intro w'
        go_simp
        with_reducible rfl
      rotate_left
      · simp only [Act.put, pA, pB, pC]
        rfl
      refine pure_ (i := 11) (N := some 55) (v := ?_) (a' := ?_) (bq 27 4079) rfl rfl (by as_aux_lemma => kernel_rfl) (fun _ _ _ h => h) (Or.inl ⟨by rfl, ?_⟩) ?_ ?_
      rotate_left
      · intro w'
        go_simp
        with_reducible rfl
      rotate_left
      · simp only [Act.put, pA, pB, pC]
        rfl
      refine pure_ (i := 13) (N := some 57) (v := ?_) (a' := ?_) (bq 27 12271) rfl rfl (by as_aux_lemma => kernel_rfl) (fun _ _ _ h => h) (Or.inl ⟨by rfl, ?_⟩) ?_ ?_
      rotate_left
      · intro w'
        go_simp
        with_reducible rfl
      rotate_left
      · simp only [Act.put, pA, pB, pC]
        rfl
      refine pure_ (i := 14) (N := some 58) (v := ?_) (a' := ?_) (bq 27 28655) rfl rfl (by as_aux_lemma => kernel_rfl) (fun _ _ _ h => h) (Or.inl ⟨by rfl, ?_⟩) ?_ ?_
      rotate_left
      · intro w'
        go_simp
        with_reducible rfl
      rotate_left
      · simp only [Act.put, pA, pB, pC]
        rfl
      refine pure_ (i := 15) (N := some 59) (v := ?_) (a' := ?_) (bq 27 61423) rfl rfl (by as_aux_lemma => kernel_rfl) (fun _ _ _ h => h) (Or.inl ⟨by rfl, ?_⟩) ?_ ?_
      rotate_left
      · intro w'
        go_simp
        with_reducible rfl
      rotate_left
      · simp only [Act.put, pA, pB, pC]
        rfl
      refine pure_ (i := 16) (N := some 60) (v := ?_) (a' := ?_) (bq 27 126959) rfl rfl (by as_aux_lemma => kernel_rfl) (fun _ _ _ h => h) (Or.inl ⟨by rfl, ?_⟩) ?_ ?_
      rotate_left
      · intro w'
        go_simp
        with_reducible rfl
      rotate_left
      · simp only [Act.put, pA, pB, pC]
        rfl
      refine pure_ (i := 17) (N := some 61) (v := ?_) (a' := ?_) (bq 27 258031) rfl rfl (by as_aux_lemma => kernel_rfl) (fun _ _ _ h => h) (Or.inl ⟨by rfl, ?_⟩) ?_ ?_
      rotate_left
      · intro w'
        go_simp
        with_reducible rfl
      rotate_left
      · simp only [Act.put, pA, pB, pC]
        rfl
      refine pure_ (i := 18) (N := some 62) (v := ?_) (a' := ?_) (bq 27 520175) rfl rfl (by as_aux_lemma => kernel_rfl) (fun _ _ _ h => h) (Or.inl ⟨by rfl, ?_⟩) ?_ ?_
      rotate_left
      · intro w'
        go_simp
        with_reducible rfl
      rotate_left
      · simp only [Act.put, pA, pB, pC]
        rfl
      refine pure_ (i := 19) (N := some 63) (v := ?_) (a' := ?_) (bq 27 1044463) rfl rfl (by as_aux_lemma => kernel_rfl) (fun _ _ _ h => h) (Or.inl ⟨by rfl, ?_⟩) ?_ ?_
      rotate_left
      · intro w'
        go_simp
        with_reducible rfl
      rotate_left
      · simp only [Act.put, pA, pB, pC]
        rfl
      refine pure_ (i := 20) (N := some 64) (v := ?_) (a' := ?_) (bq 27 2093039) rfl rfl (by as_aux_lemma => kernel_rfl) (fun _ _ _ h => h) (Or.inl ⟨by rfl, ?_⟩) ?_ ?_
      rotate_left
      · intro w'
        go_simp
        with_reducible rfl
      rotate_left
      · simp only [Act.put, pA, pB, pC]
        rfl
      refine one_ (i := 4) (N := some 48) (bq 27 2093055) rfl rfl (by as_aux_lemma => kernel_rfl) (by decide) (fun K hK => ?_)
      refine goes_ Try.func18 (by kernel_rfl) rfl #[.i (IntKind.i64.wrap ((k : Int) + 1))] (by first | rfl | go_simp) rfl rfl (by simp only [List.map_toArray, List.map_cons, List.map_nil] <;> rfl) ?_
      with_reducible refine (HE.out _).mono ?_
      rintro e w3 ⟨rfl, hb⟩
      refine ⟨_, rfl, ?_⟩
      replace HJ := HJ.call hb
      clear c13
      have c13 : World.cell? w3 ⟨w1.heap.size + 1, 13, none⟩ = some (.slice A n c) := HJ.x.cell 13
      refine hK.out _ _ ⟨c13, trivial⟩ (fun hHeld => ?_)
      clear hK K hb
      refine norm_ (a' := ?_) ?_ ?_
      rotate_left
      · show Act.put _ (some 48) _ = _
        simp only [Act.put, pA, pB, pC]
        rfl
      refine one_ (i := 12) (N := some 56) (bq 27 2097151) rfl rfl (by as_aux_lemma => kernel_rfl) (by decide) (fun K hK => ?_)
      refine goes_ Try.func17 (by kernel_rfl) rfl #[.i (IntKind.i64.wrap (r * (k : Int))), .i (IntKind.i64.wrap (r * (IntKind.i64.wrap ((k : Int) + 1))))] (by first | rfl | go_simp) rfl rfl (by simp only [List.map_toArray, List.map_cons, List.map_nil] <;> rfl) ?_
      with_reducible refine (HA.out _).mono ?_
      rintro e w4 ⟨rfl, hb⟩
      refine ⟨_, rfl, ?_⟩
      replace HJ := HJ.call hb
      clear c13
      have c13 : World.cell? w4 ⟨w1.heap.size + 1, 13, none⟩ = some (.slice A n c) := HJ.x.cell 13
      refine hK.out _ _ ⟨c13, trivial⟩ (fun hHeld => ?_)
      clear hK K hb
      refine norm_ (a' := ?_) ?_ ?_
      rotate_left
      · show Act.put _ (some 56) _ = _
        simp only [Act.put, pA, pB, pC]
        rfl
      refine one_ (i := 21) (N := some 65) (bq 27 4194303) rfl rfl (by as_aux_lemma => kernel_rfl) (by decide) (fun K hK => ?_)
      refine goes_ Try.func17 (by kernel_rfl) rfl #[.i (IntKind.i64.wrap (r * (IntKind.i64.wrap ((k : Int) + 1)))), .i (IntKind.i64.wrap (r * (IntKind.i64.wrap ((k : Int) + 1))))] (by first | rfl | go_simp) rfl rfl (by simp only [List.map_toArray, List.map_cons, List.map_nil] <;> rfl) ?_
      with_reducible refine (HO.out _).mono ?_
      rintro e w5 ⟨rfl, hb⟩
      refine ⟨_, rfl, ?_⟩
      replace HJ := HJ.call hb
      clear c13
      have c13 : World.cell? w5 ⟨w1.heap.size + 1, 13, none⟩ = some (.slice A n c) := HJ.x.cell 13
      refine hK.out _ _ ⟨c13, trivial⟩ (fun hHeld => ?_)
      clear hK K hb
      refine norm_ (a' := ?_) ?_ ?_
      rotate_left
      · show Act.put _ (some 65) _ = _
        simp only [Act.put, pA, pB, pC]
        rfl
      refine pure_ (i := 22) (N := some 66) (v := ?_) (a' := ?_) (bq 27 8388607) rfl rfl (by as_aux_lemma => kernel_rfl) (fun _ _ _ h => h) (Or.inl ⟨by rfl, ?_⟩) ?_ ?_
      rotate_left
      · intro w'
        go_simp
        with_reducible rfl
      rotate_left
      · simp only [Act.put, pA, pB, pC]
        rfl
      refine one_ (i := 23) (N := some 67) (bq 27 16777215) rfl rfl (by as_aux_lemma => kernel_rfl) (by decide) (fun K hK => ?_)
      refine value_ (v := ?_) (w1 := ?_) (by rfl) rfl ?_ ?_
      rotate_left 2
      · go_simp
        first | rfl | (constructor <;> rfl)
      have BS : Blk _ w5.heap.size 55 (List.flatMap slcCells [⟨⟨e0, e1, e2, e3⟩, ⟨a0, ⟨a1, a2, a3, a4⟩, ⟨a5, a6, a7, a8⟩⟩, ⟨o0, ⟨o1, o2, o3, o4⟩, ⟨o5, o6, o7, o8⟩⟩⟩]).toArray := Blk.new w5 55 #[.i e0, .b e1, .u e2, .i e3, .b a0, .i a1, .b a2, .u a3, .i a4, .i a5, .b a6, .u a7, .i a8, .b o0, .i o1, .b o2, .u o3, .i o4, .i o5, .b o6, .u o7, .i o8]
      have HS1 := SlG.lit slcCells_len (by decide) [⟨⟨e0, e1, e2, e3⟩, ⟨a0, ⟨a1, a2, a3, a4⟩, ⟨a5, a6, a7, a8⟩⟩, ⟨o0, ⟨o1, o2, o3, o4⟩, ⟨o5, o6, o7, o8⟩⟩⟩] (n := 1) rfl BS BS.lt
      replace HJ := HJ.alloc (.cells #[.i e0, .b e1, .u e2, .i e3, .b a0, .i a1, .b a2, .u a3, .i a4, .i a5, .b a6, .u a7, .i a8, .b o0, .i o1, .b o2, .u o3, .i o4, .i o5, .b o6, .u o7, .i o8] 55)
      clear c13
      have c13 : World.cell? (w5.alloc (.cells #[.i e0, .b e1, .u e2, .i e3, .b a0, .i a1, .b a2, .u a3, .i a4, .i a5, .b a6, .u a7, .i a8, .b o0, .i o1, .b o2, .u o3, .i o4, .i o5, .b o6, .u o7, .i o8] 55)) ⟨w1.heap.size + 1, 13, none⟩ = some (.slice A n c) := HJ.x.cell 13
      refine hK.out _ _ ⟨c13, trivial⟩ (fun hHeld => ?_)
      clear hK K
      refine norm_ (a' := ?_) ?_ ?_
      rotate_left
      · show Act.put _ (some 67) _ = _
        simp only [Act.put, pA, pB, pC]
        rfl
      refine one_ (i := 24) (N := some 68) (bq 27 33554431) rfl rfl (by as_aux_lemma => kernel_rfl) (by decide) (fun K hK => ?_)
      refine step_appT (by rfl) (.tmp 45) (.tmp 67) (by rfl) w.heap.size (.slice A n c) (runT r k) (by rfl) HJ.px _ ⟨w5.heap.size, 0, none⟩ 1 1 [⟨⟨e0, e1, e2, e3⟩, ⟨a0, ⟨a1, a2, a3, a4⟩, ⟨a5, a6, a7, a8⟩⟩, ⟨o0, ⟨o1, o2, o3, o4⟩, ⟨o5, o6, o7, o8⟩⟩⟩] (by rfl) HS1 (by rw [runT_len]; omega) HJ.bel.size ?_
      intro v7 w7 PX7 hg7 hat7
      replace HJ := HJ.appX PX7 hg7 hat7
      obtain ⟨A7, n7, c7, rfl⟩ : ∃ A n c, v7 = .slice A n c := (by obtain ⟨A, c, e⟩ := PX7.form; exact ⟨A, _, c, e⟩)
      clear c13
      have c13 : World.cell? w7 ⟨w1.heap.size + 1, 13, none⟩ = some (.slice A n c) := HJ.x.cell 13
      clear BS HS1 hg7 hat7 PX7
      refine hK.out _ _ ⟨c13, trivial⟩ (fun hHeld => ?_)
      clear hK K
      refine norm_ (a' := ?_) ?_ ?_
      rotate_left
      · show Act.put _ (some 68) _ = _
        simp only [Act.put, pA, pB, pC]
        rfl
      refine pure_ (i := 25) (N := some 69) (v := ?_) (a' := ?_) (bq 27 67108863) rfl rfl (by as_aux_lemma => kernel_rfl) (fun _ _ _ h => h) (Or.inl ⟨by rfl, ?_⟩) ?_ ?_
      rotate_left
      · intro w'
        go_simp
        with_reducible rfl
      rotate_left
      · simp only [Act.put, pA, pB, pC]
        rfl
      have f13 : w7.frozen? ⟨w1.heap.size + 1, 13, none⟩ = false := HJ.x.frozen 13
      refine last_ (i := 26) (N := none) (bq 27 134217727) rfl rfl (by as_aux_lemma => kernel_rfl) (by decide) (fun K hK => ?_)
      refine skip_ (w1 := ?_) (by rfl) rfl ?_ ?_
      rotate_left
      · go_simp
        rfl
      refine hK.out _ _ ?_
      clear hK K
      refine done_ (by as_aux_lemma => kernel_rfl) ?_
      clear hHeld c13
      go_wp2_with fail
      replace HJ := HJ.setX.drew
      have c13 := HJ.y.cell 13
      refine start_ (n := 12) (S := fun w' => Blk w' w1.heap.size 26 #[.b false, .i 0, .b false, .u 0, .i 0, .i 0, .b false, .u 0, .i 0] ∧ w'.cell? ⟨w1.heap.size + 2, 13, none⟩ = some (.slice B m d)) (ds := [11]) (bq 12 0) (by kernel_rfl) rfl rfl ⟨HJ.o, c13⟩ (fun hHeld => ?_)
      generalize hWW : World.drew _ = w9 at HJ hHeld c13 ⊢
      clear hWW
      refine pure_ (i := 0) (N := some 70) (v := ?_) (a' := ?_) (bq 12 1) rfl rfl (by as_aux_lemma => kernel_rfl) (fun _ _ _ h => h) (Or.inl ⟨by rfl, ?_⟩) ?_ ?_
      rotate_left
      · intro w'
        go_simp
        with_reducible rfl
      rotate_left
      · simp only [Act.put, pA, pB, pC]
        rfl
      refine take_ (i := 1) (N := some 71) (v := ?_) (a' := ?_) (bq 12 3) rfl rfl (by as_aux_lemma => kernel_rfl) (fun _ _ _ h => h) (Or.inl ⟨by rfl, ?_⟩) hHeld ?_ ?_
      rotate_left
      · rintro w' ⟨s0_, s1_⟩
        go_simp
        with_reducible rfl
      rotate_left
      · simp only [Act.put, pA, pB, pC]
        rfl
      refine pure_ (i := 2) (N := some 72) (v := ?_) (a' := ?_) (bq 12 7) rfl rfl (by as_aux_lemma => kernel_rfl) (fun _ _ _ h => h) (Or.inl ⟨by rfl, ?_⟩) ?_ ?_
      rotate_left
      · intro w'
        go_simp
        with_reducible rfl
      rotate_left
      · simp only [Act.put, pA, pB, pC]
        rfl
      refine pure_ (i := 3) (N := some 73) (v := ?_) (a' := ?_) (bq 12 15) rfl rfl (by as_aux_lemma => kernel_rfl) (fun _ _ _ h => h) (Or.inl ⟨by rfl, ?_⟩) ?_ ?_
      rotate_left
      · intro w'
        go_simp
        with_reducible rfl
      rotate_left
      · simp only [Act.put, pA, pB, pC]
        rfl
      refine tax 5 75 (bq 12 47) rfl (.agg #[.b false, .i 0, .b false, .u 0, .i 0, .i 0, .b false, .u 0, .i 0]) ?_ hHeld (yieldsIf_load_mid (by rfl) 26 (.tmp 6) rfl w1.heap.size 0 rfl [.b false, .i 0, .b false, .u 0, .i 0, .i 0, .b false, .u 0, .i 0] _ (fun _ h => Blk.range h.1 0 _ rfl) Try.underlying26 rfl (by kernel_rfl)) ?_ ?_
      rotate_left
      · simp only [Act.put, pA, pB, pC]
        rfl
      refine tax 6 76 (bq 12 111) rfl (.agg #[.b false, .i 0, .b false, .u 0, .i 0, .i 0, .b false, .u 0, .i 0]) ?_ hHeld (yieldsIf_load_mid (by rfl) 26 (.tmp 6) rfl w1.heap.size 0 rfl [.b false, .i 0, .b false, .u 0, .i 0, .i 0, .b false, .u 0, .i 0] _ (fun _ h => Blk.range h.1 0 _ rfl) Try.underlying26 rfl (by kernel_rfl)) ?_ ?_
      rotate_left
      · simp only [Act.put, pA, pB, pC]
        rfl
      refine one_ (i := 4) (N := some 74) (bq 12 127) rfl rfl (by as_aux_lemma => kernel_rfl) (by decide) (fun K hK => ?_)
      refine goes_ Try.func18 (by kernel_rfl) rfl #[.i (IntKind.i64.wrap ((k : Int) + 1))] (by first | rfl | go_simp) rfl rfl (by simp only [List.map_toArray, List.map_cons, List.map_nil] <;> rfl) ?_
      with_reducible refine (HE.out _).mono ?_
      rintro e w10 ⟨rfl, hb⟩
      refine ⟨_, rfl, ?_⟩
      replace HJ := HJ.call hb
      clear c13
      have c13 : World.cell? w10 ⟨w1.heap.size + 2, 13, none⟩ = some (.slice B m d) := HJ.y.cell 13
      refine hK.out _ _ ⟨HJ.o, c13⟩ (fun hHeld => ?_)
      clear hK K hb
      refine norm_ (a' := ?_) ?_ ?_
      rotate_left
      · show Act.put _ (some 74) _ = _
        simp only [Act.put, pA, pB, pC]
        rfl
      refine pure_ (i := 7) (N := some 77) (v := ?_) (a' := ?_) (bq 12 255) rfl rfl (by as_aux_lemma => kernel_rfl) (fun _ _ _ h => h) (Or.inl ⟨by rfl, ?_⟩) ?_ ?_
      rotate_left
      · intro w'
        go_simp
        with_reducible rfl
      rotate_left
      · simp only [Act.put, pA, pB, pC]
        rfl
      refine one_ (i := 8) (N := some 78) (bq 12 511) rfl rfl (by as_aux_lemma => kernel_rfl) (by decide) (fun K hK => ?_)
      refine value_ (v := ?_) (w1 := ?_) (by rfl) rfl ?_ ?_
      rotate_left 2
      · go_simp
        first | rfl | (constructor <;> rfl)
      have BS : Blk _ w10.heap.size 55 (List.flatMap slcCells [⟨⟨e0, e1, e2, e3⟩, ⟨false, ⟨0, false, 0, 0⟩, ⟨0, false, 0, 0⟩⟩, ⟨false, ⟨0, false, 0, 0⟩, ⟨0, false, 0, 0⟩⟩⟩]).toArray := Blk.new w10 55 #[.i e0, .b e1, .u e2, .i e3, .b false, .i 0, .b false, .u 0, .i 0, .i 0, .b false, .u 0, .i 0, .b false, .i 0, .b false, .u 0, .i 0, .i 0, .b false, .u 0, .i 0]
      have HS1 := SlG.lit slcCells_len (by decide) [⟨⟨e0, e1, e2, e3⟩, ⟨false, ⟨0, false, 0, 0⟩, ⟨0, false, 0, 0⟩⟩, ⟨false, ⟨0, false, 0, 0⟩, ⟨0, false, 0, 0⟩⟩⟩] (n := 1) rfl BS BS.lt
      replace HJ := HJ.alloc (.cells #[.i e0, .b e1, .u e2, .i e3, .b false, .i 0, .b false, .u 0, .i 0, .i 0, .b false, .u 0, .i 0, .b false, .i 0, .b false, .u 0, .i 0, .i 0, .b false, .u 0, .i 0] 55)
      clear c13
      have c13 : World.cell? (w10.alloc (.cells #[.i e0, .b e1, .u e2, .i e3, .b false, .i 0, .b false, .u 0, .i 0, .i 0, .b false, .u 0, .i 0, .b false, .i 0, .b false, .u 0, .i 0, .i 0, .b false, .u 0, .i 0] 55)) ⟨w1.heap.size + 2, 13, none⟩ = some (.slice B m d) := HJ.y.cell 13
      refine hK.out _ _ ⟨HJ.o, c13⟩ (fun hHeld => ?_)
      clear hK K
      refine norm_ (a' := ?_) ?_ ?_
      rotate_left
      · show Act.put _ (some 78) _ = _
        simp only [Act.put, pA, pB, pC]
        rfl
      refine one_ (i := 9) (N := some 79) (bq 12 1023) rfl rfl (by as_aux_lemma => kernel_rfl) (by decide) (fun K hK => ?_)
      refine step_appT (by rfl) (.tmp 71) (.tmp 78) (by rfl) w.heap.size (.slice B m d) (runT 0 k) (by rfl) HJ.py _ ⟨w10.heap.size, 0, none⟩ 1 1 [⟨⟨e0, e1, e2, e3⟩, ⟨false, ⟨0, false, 0, 0⟩, ⟨0, false, 0, 0⟩⟩, ⟨false, ⟨0, false, 0, 0⟩, ⟨0, false, 0, 0⟩⟩⟩] (by rfl) HS1 (by rw [runT_len]; omega) HJ.bel.size ?_
      intro v9 w11 PX7 hg7 hat7
      replace HJ := HJ.appY PX7 hg7 hat7
      obtain ⟨A9, n9, c9, rfl⟩ : ∃ A n c, v9 = .slice A n c := (by obtain ⟨A, c, e⟩ := PX7.form; exact ⟨A, _, c, e⟩)
      clear c13
      have c13 : World.cell? w11 ⟨w1.heap.size + 2, 13, none⟩ = some (.slice B m d) := HJ.y.cell 13
      clear BS HS1 hg7 hat7 PX7
      refine hK.out _ _ ⟨HJ.o, c13⟩ (fun hHeld => ?_)
      clear hK K
      refine norm_ (a' := ?_) ?_ ?_
      rotate_left
      · show Act.put _ (some 79) _ = _
        simp only [Act.put, pA, pB, pC]
        rfl
      refine pure_ (i := 10) (N := some 80) (v := ?_) (a' := ?_) (bq 12 2047) rfl rfl (by as_aux_lemma => kernel_rfl) (fun _ _ _ h => h) (Or.inl ⟨by rfl, ?_⟩) ?_ ?_
      rotate_left
      · intro w'
        go_simp
        with_reducible rfl
      rotate_left
      · simp only [Act.put, pA, pB, pC]
        rfl
      have f13 : w11.frozen? ⟨w1.heap.size + 2, 13, none⟩ = false := HJ.y.frozen 13
      refine last_ (i := 11) (N := none) (bq 12 4095) rfl rfl (by as_aux_lemma => kernel_rfl) (by decide) (fun K hK => ?_)
      refine skip_ (w1 := ?_) (by rfl) rfl ?_ ?_
      rotate_left
      · go_simp
        rfl
      refine hK.out _ _ ?_
      clear hK K
      refine done_ (by as_aux_lemma => kernel_rfl) ?_
      clear hHeld c13
      go_wp2_with fail
      go_roundw
      case rel => exact ⟨k + 1, hlt, by go_num, _, _, by rw [hsx.out, hsy.out]; exact HJ.setY⟩
      case measure => simp [intOf]; omega
    · have hk8 : k = 8 := by omega
      subst hk8
      have HPV : Hid (∀ W, RuJ w w1 (.slice A n c) (.slice B m d) (.slice A n c) (.slice B m d) (runT r 8) (runT 0 8) W → Calls Try.prog 12 #[.agg #[.i 0, .b false, .u 0, .i 0, .b false, .i 0, .b false, .u 0, .i 0, .i 0, .b false, .u 0, .i 0, .slice A n c], .agg #[.i 0, .b false, .u 0, .i 0, .b false, .i 0, .b false, .u 0, .i 0, .i 0, .b false, .u 0, .i 0, .slice B m d], .agg #[.i p0, .b p1, .u p2, .i p3], .agg #[.i f0, .b f1, .u f2, .i f3], .i (bud : Int)] W
        fun e w' => ∃ (v : Value) (k : Nat) (l : List Cl), e = .returned (.tuple #[v, .i k]) ∧ OwnC w' W.heap.size v l ∧ PvRes (ruX A n c r B m d ⟨p0, p1, p2, p3⟩ ⟨f0, f1, f2, f3⟩) bud k l ∧ Below W.heap.size W w') := fun W h => pave_calls (ruX A n c r B m d ⟨p0, p1, p2, p3⟩ ⟨f0, f1, f2, f3⟩) bud W (ruX_ok _ _ hr1' hr2' h) hbud
      have HPV3 : Hid (∀ W, RuJ w w1 (.slice A n c) (.slice B m d) (.slice A n c) (.slice B m d) (runT r 8) (runT 0 8) W → Calls Try.prog 12 #[.agg #[.i 0, .b false, .u 0, .i 0, .b false, .i 0, .b false, .u 0, .i 0, .i 0, .b false, .u 0, .i 0, .slice A n c], .agg #[.i 0, .b false, .u 0, .i 0, .b false, .i 0, .b false, .u 0, .i 0, .i 0, .b false, .u 0, .i 0, .slice B m d], .agg #[.i q0, .b q1, .u q2, .i q3], .agg #[.i f0, .b f1, .u f2, .i f3], .i 2000] W
        fun e w' => ∃ (v : Value) (k : Nat) (l : List Cl), e = .returned (.tuple #[v, .i k]) ∧ OwnC w' W.heap.size v l ∧ PvRes (ruX A n c r B m d ⟨q0, q1, q2, q3⟩ ⟨f0, f1, f2, f3⟩) 2000 k l ∧ Below W.heap.size W w') := fun W h => pave_calls (ruX A n c r B m d ⟨q0, q1, q2, q3⟩ ⟨f0, f1, f2, f3⟩) 2000 W (ruX_ok _ _ hr1' hr2' h) (by decide)
      have hA := fun k l (h : PvRes (ruX A n c r B m d ⟨p0, p1, p2, p3⟩ ⟨f0, f1, f2, f3⟩) bud k l) => runs_a (ruX_is hp.out hf.out) hr1' hr2' hbud h
      have hB := fun k l (h : PvRes (ruX A n c r B m d ⟨q0, q1, q2, q3⟩ ⟨f0, f1, f2, f3⟩) 2000 k l) => runs_b (ruX_is hq.out hf.out) hr1' hr2' h
      replace hA := Lib.hid hA
      replace hB := Lib.hid hB
      go_wp2_with fail
      replace HJ := HJ.drew
      refine start_ (n := 11) (S := fun w' => Blk w' (w1.heap.size + 1) 29 #[.i 0, .b false, .u 0, .i 0, .b false, .i 0, .b false, .u 0, .i 0, .i 0, .b false, .u 0, .i 0, .slice A n c] ∧ Blk w' (w1.heap.size + 2) 29 #[.i 0, .b false, .u 0, .i 0, .b false, .i 0, .b false, .u 0, .i 0, .i 0, .b false, .u 0, .i 0, .slice B m d]) (ds := []) (bq 11 0) (by kernel_rfl) rfl rfl ⟨HJ.x, HJ.y⟩ (fun hHeld => ?_)
      generalize hWW : World.drew _ = w12 at HJ hHeld ⊢
      clear hWW
      refine tax 0 82 (bq 11 1) rfl (.agg #[.i 0, .b false, .u 0, .i 0, .b false, .i 0, .b false, .u 0, .i 0, .i 0, .b false, .u 0, .i 0, .slice A n c]) ?_ hHeld (yieldsIf_load_mid (by rfl) 29 (.tmp 7) rfl (w1.heap.size + 1) 0 rfl [.i 0, .b false, .u 0, .i 0, .b false, .i 0, .b false, .u 0, .i 0, .i 0, .b false, .u 0, .i 0, .slice A n c] _ (fun _ h => Blk.range h.1 0 _ rfl) Try.underlying29 rfl (by kernel_rfl)) ?_ ?_
      rotate_left
      · simp only [Act.put, pA, pB, pC]
        rfl
      refine tax 1 83 (bq 11 3) rfl (.agg #[.i 0, .b false, .u 0, .i 0, .b false, .i 0, .b false, .u 0, .i 0, .i 0, .b false, .u 0, .i 0, .slice B m d]) ?_ hHeld (yieldsIf_load_mid (by rfl) 29 (.tmp 8) rfl (w1.heap.size + 2) 0 rfl [.i 0, .b false, .u 0, .i 0, .b false, .i 0, .b false, .u 0, .i 0, .i 0, .b false, .u 0, .i 0, .slice B m d] _ (fun _ h => Blk.range h.2 0 _ rfl) Try.underlying29 rfl (by kernel_rfl)) ?_ ?_
      rotate_left
      · simp only [Act.put, pA, pB, pC]
        rfl
      refine pure_ (i := 4) (N := some 86) (v := ?_) (a' := ?_) (bq 11 19) rfl rfl (by as_aux_lemma => kernel_rfl) (fun _ _ _ h => h) (Or.inl ⟨by rfl, ?_⟩) ?_ ?_
      rotate_left
      · intro w'
        go_simp
        with_reducible rfl
      rotate_left
      · simp only [Act.put, pA, pB, pC]
        rfl
      refine one_ (i := 2) (N := some 84) (bq 11 23) rfl rfl (by as_aux_lemma => kernel_rfl) (by decide) (fun K hK => ?_)
      refine goes_ Try.func18 (by kernel_rfl) rfl #[.i 2] (by first | rfl | go_simp) rfl rfl (by simp only [List.map_toArray, List.map_cons, List.map_nil] <;> rfl) ?_
      with_reducible refine (HG2.out _).mono ?_
      rintro e w13 ⟨rfl, hb⟩
      refine ⟨_, rfl, ?_⟩
      replace HJ := HJ.call hb
      refine hK.out _ _ ⟨HJ.x, HJ.y⟩ (fun hHeld => ?_)
      clear hK K hb
      refine norm_ (a' := ?_) ?_ ?_
      rotate_left
      · show Act.put _ (some 84) _ = _
        simp only [Act.put, pA, pB, pC]
        rfl
      refine one_ (i := 3) (N := some 85) (bq 11 31) rfl rfl (by as_aux_lemma => kernel_rfl) (by decide) (fun K hK => ?_)
      refine goes_ Try.func18 (by kernel_rfl) rfl #[.i 1] (by first | rfl | go_simp) rfl rfl (by simp only [List.map_toArray, List.map_cons, List.map_nil] <;> rfl) ?_
      with_reducible refine (HF1.out _).mono ?_
      rintro e w14 ⟨rfl, hb⟩
      refine ⟨_, rfl, ?_⟩
      replace HJ := HJ.call hb
      refine hK.out _ _ ⟨HJ.x, HJ.y⟩ (fun hHeld => ?_)
      clear hK K hb
      refine norm_ (a' := ?_) ?_ ?_
      rotate_left
      · show Act.put _ (some 85) _ = _
        simp only [Act.put, pA, pB, pC]
        rfl
      refine one_ (i := 5) (N := some 87) (bq 11 63) rfl rfl (by as_aux_lemma => kernel_rfl) (by decide) (fun K hK => ?_)
      refine goes_ Try.func12 (by kernel_rfl) rfl #[.agg #[.i 0, .b false, .u 0, .i 0, .b false, .i 0, .b false, .u 0, .i 0, .i 0, .b false, .u 0, .i 0, .slice A n c], .agg #[.i 0, .b false, .u 0, .i 0, .b false, .i 0, .b false, .u 0, .i 0, .i 0, .b false, .u 0, .i 0, .slice B m d], .agg #[.i p0, .b p1, .u p2, .i p3], .agg #[.i f0, .b f1, .u f2, .i f3], .i (bud : Int)] (by first | rfl | go_simp) rfl rfl (by simp only [List.map_toArray, List.map_cons, List.map_nil] <;> rfl) ?_
      with_reducible refine (HPV.out _ HJ).mono ?_
      rintro e w15 ⟨v_, kk, l, rfl, OC, hR, hb⟩
      refine ⟨_, rfl, ?_⟩
      replace HJ := HJ.call hb
      obtain ⟨Av, cv, rfl⟩ := OC.form
      refine hK.out _ _ ⟨HJ.x, HJ.y⟩ (fun hHeld => ?_)
      clear hK K hb
      refine norm_ (a' := ?_) ?_ ?_
      rotate_left
      · show Act.put _ (some 87) _ = _
        simp only [Act.put, pA, pB, pC]
        rfl
      refine pure_ (i := 6) (N := some 81) (v := ?_) (a' := ?_) (bq 11 127) rfl rfl (by as_aux_lemma => kernel_rfl) (fun _ _ _ h => h) (Or.inl ⟨by rfl, ?_⟩) ?_ ?_
      rotate_left
      · intro w'
        go_simp
        with_reducible rfl
      rotate_left
      · simp only [Act.put, pA, pB, pC]
        rfl
      refine pure_ (i := 7) (N := some 88) (v := ?_) (a' := ?_) (bq 11 255) rfl rfl (by as_aux_lemma => kernel_rfl) (fun _ _ _ h => h) (Or.inl ⟨by rfl, ?_⟩) ?_ ?_
      rotate_left
      · intro w'
        go_simp
        with_reducible rfl
      rotate_left
      · simp only [Act.put, pA, pB, pC]
        rfl
      refine pure_ (i := 8) (N := some 89) (v := ?_) (a' := ?_) (bq 11 511) rfl rfl (by as_aux_lemma => kernel_rfl) (fun _ _ _ h => h) (Or.inl ⟨by rfl, ?_⟩) ?_ ?_
      rotate_left
      · intro w'
        go_simp
        with_reducible rfl
      rotate_left
      · simp only [Act.put, pA, pB, pC]
        rfl
      refine pure_ (i := 9) (N := some 10) (v := ?_) (a' := ?_) (bq 11 1023) rfl rfl (by as_aux_lemma => kernel_rfl) (fun _ _ _ h => h) (Or.inl ⟨by rfl, ?_⟩) ?_ ?_
      rotate_left
      · intro w'
        go_simp
        with_reducible rfl
      rotate_left
      · simp only [Act.put, pA, pB, pC]
        rfl
      refine pure_ (i := 10) (N := some 11) (v := ?_) (a' := ?_) (bq 11 2047) rfl rfl (by as_aux_lemma => kernel_rfl) (fun _ _ _ h => h) (Or.inl ⟨by rfl, ?_⟩) ?_ ?_
      rotate_left
      · intro w'
        go_simp
        with_reducible rfl
      rotate_left
      · simp only [Act.put, pA, pB, pC]
        rfl
      refine done_ (by as_aux_lemma => kernel_rfl) ?_
      clear hHeld
      obtain ⟨hlen, hcell⟩ := hA.out _ _ hR
      replace hcell := Lib.hid hcell
      replace OC := Lib.hid OC
      have hR0 : Hid (∃ ii : Nat, ii ≤ l.length ∧ (.i 0 : Value) = .i (ii : Int) ∧ Below w15.heap.size w15 w15) := ⟨0, Nat.zero_le _, rfl, Below.refl _ _⟩
      clear hR HPV hA HG2 hlt
      go_wp2_with fail
      go_loopw [12] (fun v wr => ∃ ii : Nat, ii ≤ l.length ∧ v = .i (ii : Int) ∧ Below w15.heap.size w15 wr) (fun v _ => l.length - (intOf v).toNat)
      case atStart => exact hR0.out
      case round =>
        obtain ⟨ii, hii, rfl, HB⟩ := hrel
        replace HJ := HJ.call HB
        clear hR0
        by_cases hlt : ii < l.length
        rotate_left
        · have hin : ii = l.length := by omega
          subst hin
          clear hcell OC HB
          go_wp2_with fail
          replace HJ := HJ.drew
          refine start_ (n := 10) (S := fun w' => Blk w' (w1.heap.size + 1) 29 #[.i 0, .b false, .u 0, .i 0, .b false, .i 0, .b false, .u 0, .i 0, .i 0, .b false, .u 0, .i 0, .slice A n c] ∧ Blk w' (w1.heap.size + 2) 29 #[.i 0, .b false, .u 0, .i 0, .b false, .i 0, .b false, .u 0, .i 0, .i 0, .b false, .u 0, .i 0, .slice B m d]) (ds := []) (bq 10 0) (by kernel_rfl) rfl rfl ⟨HJ.x, HJ.y⟩ (fun hHeld => ?_)
          generalize hWW : World.drew _ = w22 at HJ hHeld ⊢
          clear hWW
          refine tax 0 121 (bq 10 1) rfl (.agg #[.i 0, .b false, .u 0, .i 0, .b false, .i 0, .b false, .u 0, .i 0, .i 0, .b false, .u 0, .i 0, .slice A n c]) ?_ hHeld (yieldsIf_load_mid (by rfl) 29 (.tmp 7) rfl (w1.heap.size + 1) 0 rfl [.i 0, .b false, .u 0, .i 0, .b false, .i 0, .b false, .u 0, .i 0, .i 0, .b false, .u 0, .i 0, .slice A n c] _ (fun _ h => Blk.range h.1 0 _ rfl) Try.underlying29 rfl (by kernel_rfl)) ?_ ?_
          rotate_left
          · simp only [Act.put, pA, pB, pC]
            rfl
          refine tax 1 122 (bq 10 3) rfl (.agg #[.i 0, .b false, .u 0, .i 0, .b false, .i 0, .b false, .u 0, .i 0, .i 0, .b false, .u 0, .i 0, .slice B m d]) ?_ hHeld (yieldsIf_load_mid (by rfl) 29 (.tmp 8) rfl (w1.heap.size + 2) 0 rfl [.i 0, .b false, .u 0, .i 0, .b false, .i 0, .b false, .u 0, .i 0, .i 0, .b false, .u 0, .i 0, .slice B m d] _ (fun _ h => Blk.range h.2 0 _ rfl) Try.underlying29 rfl (by kernel_rfl)) ?_ ?_
          rotate_left
          · simp only [Act.put, pA, pB, pC]
            rfl
          refine one_ (i := 2) (N := some 123) (bq 10 7) rfl rfl (by as_aux_lemma => kernel_rfl) (by decide) (fun K hK => ?_)
          refine goes_ Try.func18 (by kernel_rfl) rfl #[.i 3] (by first | rfl | go_simp) rfl rfl (by simp only [List.map_toArray, List.map_cons, List.map_nil] <;> rfl) ?_
          with_reducible refine (HG3.out _).mono ?_
          rintro e w23 ⟨rfl, hb⟩
          refine ⟨_, rfl, ?_⟩
          replace HJ := HJ.call hb
          refine hK.out _ _ ⟨HJ.x, HJ.y⟩ (fun hHeld => ?_)
          clear hK K hb
          refine norm_ (a' := ?_) ?_ ?_
          rotate_left
          · show Act.put _ (some 123) _ = _
            simp only [Act.put, pA, pB, pC]
            rfl
          refine one_ (i := 3) (N := some 124) (bq 10 15) rfl rfl (by as_aux_lemma => kernel_rfl) (by decide) (fun K hK => ?_)
          refine goes_ Try.func18 (by kernel_rfl) rfl #[.i 1] (by first | rfl | go_simp) rfl rfl (by simp only [List.map_toArray, List.map_cons, List.map_nil] <;> rfl) ?_
          with_reducible refine (HF1.out _).mono ?_
          rintro e w24 ⟨rfl, hb⟩
          refine ⟨_, rfl, ?_⟩
          replace HJ := HJ.call hb
          refine hK.out _ _ ⟨HJ.x, HJ.y⟩ (fun hHeld => ?_)
          clear hK K hb
          refine norm_ (a' := ?_) ?_ ?_
          rotate_left
          · show Act.put _ (some 124) _ = _
            simp only [Act.put, pA, pB, pC]
            rfl
          refine one_ (i := 4) (N := some 125) (bq 10 31) rfl rfl (by as_aux_lemma => kernel_rfl) (by decide) (fun K hK => ?_)
          refine goes_ Try.func12 (by kernel_rfl) rfl #[.agg #[.i 0, .b false, .u 0, .i 0, .b false, .i 0, .b false, .u 0, .i 0, .i 0, .b false, .u 0, .i 0, .slice A n c], .agg #[.i 0, .b false, .u 0, .i 0, .b false, .i 0, .b false, .u 0, .i 0, .i 0, .b false, .u 0, .i 0, .slice B m d], .agg #[.i q0, .b q1, .u q2, .i q3], .agg #[.i f0, .b f1, .u f2, .i f3], .i 2000] (by first | rfl | go_simp) rfl rfl (by simp only [List.map_toArray, List.map_cons, List.map_nil] <;> rfl) ?_
          with_reducible refine (HPV3.out _ HJ).mono ?_
          rintro e w25 ⟨v_, kk, l3, rfl, OC3, hR3, hb⟩
          refine ⟨_, rfl, ?_⟩
          replace HJ := HJ.call hb
          obtain ⟨Av3, cv3, rfl⟩ := OC3.form
          refine hK.out _ _ ⟨HJ.x, HJ.y⟩ (fun hHeld => ?_)
          clear hK K hb
          refine norm_ (a' := ?_) ?_ ?_
          rotate_left
          · show Act.put _ (some 125) _ = _
            simp only [Act.put, pA, pB, pC]
            rfl
          refine pure_ (i := 5) (N := some 120) (v := ?_) (a' := ?_) (bq 10 63) rfl rfl (by as_aux_lemma => kernel_rfl) (fun _ _ _ h => h) (Or.inl ⟨by rfl, ?_⟩) ?_ ?_
          rotate_left
          · intro w'
            go_simp
            with_reducible rfl
          rotate_left
          · simp only [Act.put, pA, pB, pC]
            rfl
          refine pure_ (i := 6) (N := some 126) (v := ?_) (a' := ?_) (bq 10 127) rfl rfl (by as_aux_lemma => kernel_rfl) (fun _ _ _ h => h) (Or.inl ⟨by rfl, ?_⟩) ?_ ?_
          rotate_left
          · intro w'
            go_simp
            with_reducible rfl
          rotate_left
          · simp only [Act.put, pA, pB, pC]
            rfl
          refine pure_ (i := 7) (N := some 127) (v := ?_) (a' := ?_) (bq 10 255) rfl rfl (by as_aux_lemma => kernel_rfl) (fun _ _ _ h => h) (Or.inl ⟨by rfl, ?_⟩) ?_ ?_
          rotate_left
          · intro w'
            go_simp
            with_reducible rfl
          rotate_left
          · simp only [Act.put, pA, pB, pC]
            rfl
          refine pure_ (i := 8) (N := some 13) (v := ?_) (a' := ?_) (bq 10 511) rfl rfl (by as_aux_lemma => kernel_rfl) (fun _ _ _ h => h) (Or.inl ⟨by rfl, ?_⟩) ?_ ?_
          rotate_left
          · intro w'
            go_simp
            with_reducible rfl
          rotate_left
          · simp only [Act.put, pA, pB, pC]
            rfl
          refine pure_ (i := 9) (N := some 14) (v := ?_) (a' := ?_) (bq 10 1023) rfl rfl (by as_aux_lemma => kernel_rfl) (fun _ _ _ h => h) (Or.inl ⟨by rfl, ?_⟩) ?_ ?_
          rotate_left
          · intro w'
            go_simp
            with_reducible rfl
          rotate_left
          · simp only [Act.put, pA, pB, pC]
            rfl
          refine done_ (by as_aux_lemma => kernel_rfl) ?_
          clear hHeld
          have e3 := hB.out _ _ hR3
          subst e3
          have HBf := Lib.hid HJ.bel
          clear HJ OC3 hR3 HPV3 hB
          go_wp2_with fail
          go_ret
          exact ⟨rfl, HBf.out⟩
        obtain ⟨Av', cv', e', hsl⟩ := OwnG.sl clCells_length (by decide) OC.out
        injection e' with e1 e2 e3
        subst e1
        subst e3
        clear e2
        obtain ⟨bb, off, x, rfl, hbb, hx, hcx⟩ := hsl.at_ hlt
        have hcl := hcell.out x (List.mem_of_getElem? hx)
        obtain ⟨⟨⟨a0, ⟨a1, a2, a3, a4⟩, ⟨a5, a6, a7, a8⟩⟩, ⟨b0, ⟨b1, b2, b3, b4⟩, ⟨b5, b6, b7, b8⟩⟩⟩, kd⟩ := x
        have RA : w15.rangeAt bb (off + ii * 19 + 5) [.i a5, .b a6, .u a7, .i a8] := fun j u hu => by
          have h := hcx (5 + j) u (by rw [show clCells ⟨⟨⟨a0, ⟨a1, a2, a3, a4⟩, ⟨a5, a6, a7, a8⟩⟩, ⟨b0, ⟨b1, b2, b3, b4⟩, ⟨b5, b6, b7, b8⟩⟩⟩, kd⟩ = [.b a0, .i a1, .b a2, .u a3, .i a4] ++ ([.i a5, .b a6, .u a7, .i a8] ++ ([.b b0, .i b1, .b b2, .u b3, .i b4, .i b5, .b b6, .u b7, .i b8] ++ [.i kd])) from rfl, List.getElem?_append_right (by simp), List.getElem?_append_left (by have := (List.getElem?_eq_some_iff.1 hu).1; simp at this ⊢; omega)]; simpa using hu)
          rwa [← Nat.add_assoc] at h
        have RB : w15.rangeAt bb (off + ii * 19 + 10) [.i b1, .b b2, .u b3, .i b4] := fun j u hu => by
          have h := hcx (10 + j) u (by rw [show clCells ⟨⟨⟨a0, ⟨a1, a2, a3, a4⟩, ⟨a5, a6, a7, a8⟩⟩, ⟨b0, ⟨b1, b2, b3, b4⟩, ⟨b5, b6, b7, b8⟩⟩⟩, kd⟩ = [.b a0, .i a1, .b a2, .u a3, .i a4, .i a5, .b a6, .u a7, .i a8, .b b0] ++ ([.i b1, .b b2, .u b3, .i b4] ++ [.i b5, .b b6, .u b7, .i b8, .i kd]) from rfl, List.getElem?_append_right (by simp), List.getElem?_append_left (by have := (List.getElem?_eq_some_iff.1 hu).1; simp at this ⊢; omega)]; simpa using hu)
          rwa [← Nat.add_assoc] at h
        have RK : w15.cell? ⟨bb, off + ii * 19 + 18, none⟩ = some (.i kd) := hcx 18 _ rfl
        have HC := (fun W => cmpN_calls b1 b2 b3 b4 a5 a6 a7 a8 W)
        dsimp only at hcl
        generalize cmpN (⟨b1, b2, b3, b4⟩ : Num) (⟨a5, a6, a7, a8⟩ : Num) = z at HC hcl
        replace HC := Lib.hid HC
        replace RA := Lib.hid RA
        replace RB := Lib.hid RB
        replace RK := Lib.hid RK
        have HBd := HB
        clear HB hcell hsl hcx hx OC HJ
        by_cases hkd : kd = 0
        · have hz : ¬ 0 < z := (by have := hcl hkd; omega)
          subst hkd
          clear hcl
          go_wp2_with fail
          replace HBd := bl_drew HBd
          refine start_ (n := 24) (S := fun w' => w'.cell? ⟨bb, off + ii * 19 + 18, none⟩ = some (.i 0) ∧ w'.rangeAt bb (off + ii * 19 + 5) [.i a5, .b a6, .u a7, .i a8] ∧ w'.rangeAt bb (off + ii * 19 + 10) [.i b1, .b b2, .u b3, .i b4]) (ds := []) (bq 24 0) (by kernel_rfl) rfl rfl ⟨(HBd.cell (p := ⟨bb, off + ii * 19 + 18, none⟩) hbb).trans RK.out, Rng.below RA.out HBd hbb, Rng.below RB.out HBd hbb⟩ (fun hHeld => ?_)
          generalize hWW : World.drew _ = w16 at HBd hHeld ⊢
          clear hWW
          refine pure_ (i := 0) (N := some 96) (v := ?_) (a' := ?_) (bq 24 1) rfl rfl (by as_aux_lemma => kernel_rfl) (fun _ _ _ h => h) (Or.inl ⟨by rfl, ?_⟩) ?_ ?_
          rotate_left
          · intro w'
            go_simp
            with_reducible rfl
          rotate_left
          · simp only [Act.put, pA, pB, pC]
            rfl
          refine pure_ (i := 1) (N := some 97) (v := ?_) (a' := ?_) (bq 24 3) rfl rfl (by as_aux_lemma => kernel_rfl) (fun _ _ _ h => h) (Or.inl ⟨by rfl, ?_⟩) ?_ ?_
          rotate_left
          · intro w'
            go_simp
            with_reducible rfl
          rotate_left
          · simp only [Act.put, pA, pB, pC]
            rfl
          refine pure_ (i := 2) (N := some 98) (v := ?_) (a' := ?_) (bq 24 7) rfl rfl (by as_aux_lemma => kernel_rfl) (fun _ _ _ h => h) (Or.inl ⟨by rfl, ?_⟩) ?_ ?_
          rotate_left
          · intro w'
            go_simp
            with_reducible rfl
          rotate_left
          · simp only [Act.put, pA, pB, pC]
            rfl
          refine pure_ (i := 3) (N := some 99) (v := ?_) (a' := ?_) (bq 24 15) rfl rfl (by as_aux_lemma => kernel_rfl) (fun _ _ _ h => h) (Or.inl ⟨by rfl, ?_⟩) ?_ ?_
          rotate_left
          · intro w'
            go_simp
            with_reducible rfl
          rotate_left
          · simp only [Act.put, pA, pB, pC]
            rfl
          refine take_ (i := 4) (N := some 100) (v := ?_) (a' := ?_) (bq 24 31) rfl rfl (by as_aux_lemma => kernel_rfl) (fun _ _ _ h => h) (Or.inl ⟨by rfl, ?_⟩) hHeld ?_ ?_
          rotate_left
          · rintro w' ⟨s0_, s1_, s2_⟩
            go_simp
            with_reducible rfl
          rotate_left
          · simp only [Act.put, pA, pB, pC]
            rfl
          refine pure_ (i := 5) (N := some 101) (v := ?_) (a' := ?_) (bq 24 63) rfl rfl (by as_aux_lemma => kernel_rfl) (fun _ _ _ h => h) (Or.inl ⟨by rfl, ?_⟩) ?_ ?_
          rotate_left
          · intro w'
            go_simp
            with_reducible rfl
          rotate_left
          · simp only [Act.put, pA, pB, pC]
            rfl
          try rw [hkd'.out]
          refine pure_ (i := 6) (N := some 102) (v := ?_) (a' := ?_) (bq 24 127) rfl rfl (by as_aux_lemma => kernel_rfl) (fun _ _ _ h => h) (Or.inl ⟨by rfl, ?_⟩) ?_ ?_
          rotate_left
          · intro w'
            go_simp
            with_reducible rfl
          rotate_left
          · simp only [Act.put, pA, pB, pC]
            rfl
          refine pure_ (i := 7) (N := some 103) (v := ?_) (a' := ?_) (bq 24 255) rfl rfl (by as_aux_lemma => kernel_rfl) (fun _ _ _ h => h) (Or.inl ⟨by rfl, ?_⟩) ?_ ?_
          rotate_left
          · intro w'
            go_simp
            with_reducible rfl
          rotate_left
          · simp only [Act.put, pA, pB, pC]
            rfl
          refine pure_ (i := 8) (N := some 104) (v := ?_) (a' := ?_) (bq 24 511) rfl rfl (by as_aux_lemma => kernel_rfl) (fun _ _ _ h => h) (Or.inl ⟨by rfl, ?_⟩) ?_ ?_
          rotate_left
          · intro w'
            go_simp
            with_reducible rfl
          rotate_left
          · simp only [Act.put, pA, pB, pC]
            rfl
          refine pure_ (i := 9) (N := some 105) (v := ?_) (a' := ?_) (bq 24 1023) rfl rfl (by as_aux_lemma => kernel_rfl) (fun _ _ _ h => h) (Or.inl ⟨by rfl, ?_⟩) ?_ ?_
          rotate_left
          · intro w'
            go_simp
            with_reducible rfl
          rotate_left
          · simp only [Act.put, pA, pB, pC]
            rfl
          refine pure_ (i := 10) (N := some 106) (v := ?_) (a' := ?_) (bq 24 2047) rfl rfl (by as_aux_lemma => kernel_rfl) (fun _ _ _ h => h) (Or.inl ⟨by rfl, ?_⟩) ?_ ?_
          rotate_left
          · intro w'
            go_simp
            with_reducible rfl
          rotate_left
          · simp only [Act.put, pA, pB, pC]
            rfl
          refine pure_ (i := 11) (N := some 107) (v := ?_) (a' := ?_) (bq 24 4095) rfl rfl (by as_aux_lemma => kernel_rfl) (fun _ _ _ h => h) (Or.inl ⟨by rfl, ?_⟩) ?_ ?_
          rotate_left
          · intro w'
            go_simp
            with_reducible rfl
          rotate_left
          · simp only [Act.put, pA, pB, pC]
            rfl
          refine pure_ (i := 12) (N := some 108) (v := ?_) (a' := ?_) (bq 24 8191) rfl rfl (by as_aux_lemma => kernel_rfl) (fun _ _ _ h => h) (Or.inl ⟨by rfl, ?_⟩) ?_ ?_
          rotate_left
          · intro w'
            go_simp
            with_reducible rfl
          rotate_left
          · simp only [Act.put, pA, pB, pC]
            rfl
          refine tax 13 109 (bq 24 16383) rfl (.agg #[.i b1, .b b2, .u b3, .i b4]) ?_ hHeld (yieldsIf_load_mid (by rfl) 24 (.tmp 108) rfl bb (off + ii * 19 + 10) rfl [.i b1, .b b2, .u b3, .i b4] _ (fun _ h => h.2.2) Try.underlying24 rfl (by kernel_rfl)) ?_ ?_
          rotate_left
          · simp only [Act.put, pA, pB, pC]
            rfl
          refine pure_ (i := 14) (N := some 110) (v := ?_) (a' := ?_) (bq 24 32767) rfl rfl (by as_aux_lemma => kernel_rfl) (fun _ _ _ h => h) (Or.inl ⟨by rfl, ?_⟩) ?_ ?_
          rotate_left
          · intro w'
            go_simp
            with_reducible rfl
          rotate_left
          · simp only [Act.put, pA, pB, pC]
            rfl
          refine pure_ (i := 15) (N := some 111) (v := ?_) (a' := ?_) (bq 24 65535) rfl rfl (by as_aux_lemma => kernel_rfl) (fun _ _ _ h => h) (Or.inl ⟨by rfl, ?_⟩) ?_ ?_
          rotate_left
          · intro w'
            go_simp
            with_reducible rfl
          rotate_left
          · simp only [Act.put, pA, pB, pC]
            rfl
          refine pure_ (i := 16) (N := some 112) (v := ?_) (a' := ?_) (bq 24 131071) rfl rfl (by as_aux_lemma => kernel_rfl) (fun _ _ _ h => h) (Or.inl ⟨by rfl, ?_⟩) ?_ ?_
          rotate_left
          · intro w'
            go_simp
            with_reducible rfl
          rotate_left
          · simp only [Act.put, pA, pB, pC]
            rfl
          refine pure_ (i := 17) (N := some 113) (v := ?_) (a' := ?_) (bq 24 262143) rfl rfl (by as_aux_lemma => kernel_rfl) (fun _ _ _ h => h) (Or.inl ⟨by rfl, ?_⟩) ?_ ?_
          rotate_left
          · intro w'
            go_simp
            with_reducible rfl
          rotate_left
          · simp only [Act.put, pA, pB, pC]
            rfl
          refine pure_ (i := 18) (N := some 114) (v := ?_) (a' := ?_) (bq 24 524287) rfl rfl (by as_aux_lemma => kernel_rfl) (fun _ _ _ h => h) (Or.inl ⟨by rfl, ?_⟩) ?_ ?_
          rotate_left
          · intro w'
            go_simp
            with_reducible rfl
          rotate_left
          · simp only [Act.put, pA, pB, pC]
            rfl
          refine pure_ (i := 19) (N := some 115) (v := ?_) (a' := ?_) (bq 24 1048575) rfl rfl (by as_aux_lemma => kernel_rfl) (fun _ _ _ h => h) (Or.inl ⟨by rfl, ?_⟩) ?_ ?_
          rotate_left
          · intro w'
            go_simp
            with_reducible rfl
          rotate_left
          · simp only [Act.put, pA, pB, pC]
            rfl
          refine tax 20 116 (bq 24 2097151) rfl (.agg #[.i a5, .b a6, .u a7, .i a8]) ?_ hHeld (yieldsIf_load_mid (by rfl) 24 (.tmp 115) rfl bb (off + ii * 19 + 5) rfl [.i a5, .b a6, .u a7, .i a8] _ (fun _ h => h.2.1) Try.underlying24 rfl (by kernel_rfl)) ?_ ?_
          rotate_left
          · simp only [Act.put, pA, pB, pC]
            rfl
          refine one_ (i := 21) (N := some 117) (bq 24 4194303) rfl rfl (by as_aux_lemma => kernel_rfl) (by decide) (fun K hK => ?_)
          refine goes_ Try.func19 (by kernel_rfl) rfl #[.agg #[.i b1, .b b2, .u b3, .i b4], .agg #[.i a5, .b a6, .u a7, .i a8]] (by first | rfl | go_simp) rfl rfl (by simp only [List.map_toArray, List.map_cons, List.map_nil] <;> rfl) ?_
          with_reducible refine (HC.out _).mono ?_
          rintro e w17 ⟨rfl, hb⟩
          refine ⟨_, rfl, ?_⟩
          replace HBd := bl_trans HBd hb
          refine hK.out _ _ ⟨(HBd.cell (p := ⟨bb, off + ii * 19 + 18, none⟩) hbb).trans RK.out, Rng.below RA.out HBd hbb, Rng.below RB.out HBd hbb⟩ (fun hHeld => ?_)
          clear hK K hb
          refine norm_ (a' := ?_) ?_ ?_
          rotate_left
          · show Act.put _ (some 117) _ = _
            simp only [Act.put, pA, pB, pC]
            rfl
          refine pure_ (i := 22) (N := some 118) (v := ?_) (a' := ?_) (bq 24 8388607) rfl rfl (by as_aux_lemma => kernel_rfl) (fun _ _ _ h => h) (Or.inl ⟨by rfl, ?_⟩) ?_ ?_
          rotate_left
          · intro w'
            go_simp
            with_reducible rfl
          rotate_left
          · simp only [Act.put, pA, pB, pC]
            rfl
          refine pure_ (i := 23) (N := some 119) (v := ?_) (a' := ?_) (bq 24 16777215) rfl rfl (by as_aux_lemma => kernel_rfl) (fun _ _ _ h => h) (Or.inl ⟨by rfl, ?_⟩) ?_ ?_
          rotate_left
          · intro w'
            go_simp
            with_reducible rfl
          rotate_left
          · simp only [Act.put, pA, pB, pC]
            rfl
          refine done_ (by as_aux_lemma => kernel_rfl) ?_
          clear hHeld
          go_wp2_with fail
          exact ⟨⟨ii + 1, hlt, by simp, HBd⟩, by simp [intOf]; omega⟩
        · clear hcl
          have hkd' : Hid ((kd == 0) = false) := (by rw [beq_eq_false_iff_ne]; exact hkd : (kd == 0) = false)
          go_wp2_with fail
          replace HBd := bl_drew HBd
          refine start_ (n := 24) (S := fun w' => w'.cell? ⟨bb, off + ii * 19 + 18, none⟩ = some (.i kd) ∧ w'.rangeAt bb (off + ii * 19 + 5) [.i a5, .b a6, .u a7, .i a8] ∧ w'.rangeAt bb (off + ii * 19 + 10) [.i b1, .b b2, .u b3, .i b4]) (ds := []) (bq 24 0) (by kernel_rfl) rfl rfl ⟨(HBd.cell (p := ⟨bb, off + ii * 19 + 18, none⟩) hbb).trans RK.out, Rng.below RA.out HBd hbb, Rng.below RB.out HBd hbb⟩ (fun hHeld => ?_)
          generalize hWW : World.drew _ = w16 at HBd hHeld ⊢
          clear hWW
          refine pure_ (i := 0) (N := some 96) (v := ?_) (a' := ?_) (bq 24 1) rfl rfl (by as_aux_lemma => kernel_rfl) (fun _ _ _ h => h) (Or.inl ⟨by rfl, ?_⟩) ?_ ?_
          rotate_left
          · intro w'
            go_simp
            with_reducible rfl
          rotate_left
          · simp only [Act.put, pA, pB, pC]
            rfl
          refine pure_ (i := 1) (N := some 97) (v := ?_) (a' := ?_) (bq 24 3) rfl rfl (by as_aux_lemma => kernel_rfl) (fun _ _ _ h => h) (Or.inl ⟨by rfl, ?_⟩) ?_ ?_
          rotate_left
          · intro w'
            go_simp
            with_reducible rfl
          rotate_left
          · simp only [Act.put, pA, pB, pC]
            rfl
          refine pure_ (i := 2) (N := some 98) (v := ?_) (a' := ?_) (bq 24 7) rfl rfl (by as_aux_lemma => kernel_rfl) (fun _ _ _ h => h) (Or.inl ⟨by rfl, ?_⟩) ?_ ?_
          rotate_left
          · intro w'
            go_simp
            with_reducible rfl
          rotate_left
          · simp only [Act.put, pA, pB, pC]
            rfl
          refine pure_ (i := 3) (N := some 99) (v := ?_) (a' := ?_) (bq 24 15) rfl rfl (by as_aux_lemma => kernel_rfl) (fun _ _ _ h => h) (Or.inl ⟨by rfl, ?_⟩) ?_ ?_
          rotate_left
          · intro w'
            go_simp
            with_reducible rfl
          rotate_left
          · simp only [Act.put, pA, pB, pC]
            rfl
          refine take_ (i := 4) (N := some 100) (v := ?_) (a' := ?_) (bq 24 31) rfl rfl (by as_aux_lemma => kernel_rfl) (fun _ _ _ h => h) (Or.inl ⟨by rfl, ?_⟩) hHeld ?_ ?_
          rotate_left
          · rintro w' ⟨s0_, s1_, s2_⟩
            go_simp
            with_reducible rfl
          rotate_left
          · simp only [Act.put, pA, pB, pC]
            rfl
          refine pure_ (i := 5) (N := some 101) (v := ?_) (a' := ?_) (bq 24 63) rfl rfl (by as_aux_lemma => kernel_rfl) (fun _ _ _ h => h) (Or.inl ⟨by rfl, ?_⟩) ?_ ?_
          rotate_left
          · intro w'
            go_simp
            with_reducible rfl
          rotate_left
          · simp only [Act.put, pA, pB, pC]
            rfl
          try rw [hkd'.out]
          refine pure_ (i := 6) (N := some 102) (v := ?_) (a' := ?_) (bq 24 127) rfl rfl (by as_aux_lemma => kernel_rfl) (fun _ _ _ h => h) (Or.inl ⟨by rfl, ?_⟩) ?_ ?_
          rotate_left
          · intro w'
            go_simp
            with_reducible rfl
          rotate_left
          · simp only [Act.put, pA, pB, pC]
            rfl
          refine pure_ (i := 7) (N := some 103) (v := undef) (a' := ?_) (bq 24 255) rfl rfl (by as_aux_lemma => kernel_rfl) (fun _ _ _ h => h) (Or.inr ⟨by rfl, rfl⟩) ?_ ?_
          rotate_left
          · simp only [Act.put, pA, pB, pC]
            rfl
          refine pure_ (i := 8) (N := some 104) (v := undef) (a' := ?_) (bq 24 511) rfl rfl (by as_aux_lemma => kernel_rfl) (fun _ _ _ h => h) (Or.inr ⟨by rfl, rfl⟩) ?_ ?_
          rotate_left
          · simp only [Act.put, pA, pB, pC]
            rfl
          refine pure_ (i := 9) (N := some 105) (v := undef) (a' := ?_) (bq 24 1023) rfl rfl (by as_aux_lemma => kernel_rfl) (fun _ _ _ h => h) (Or.inr ⟨by rfl, rfl⟩) ?_ ?_
          rotate_left
          · simp only [Act.put, pA, pB, pC]
            rfl
          refine pure_ (i := 10) (N := some 106) (v := undef) (a' := ?_) (bq 24 2047) rfl rfl (by as_aux_lemma => kernel_rfl) (fun _ _ _ h => h) (Or.inr ⟨by rfl, rfl⟩) ?_ ?_
          rotate_left
          · simp only [Act.put, pA, pB, pC]
            rfl
          refine pure_ (i := 11) (N := some 107) (v := undef) (a' := ?_) (bq 24 4095) rfl rfl (by as_aux_lemma => kernel_rfl) (fun _ _ _ h => h) (Or.inr ⟨by rfl, rfl⟩) ?_ ?_
          rotate_left
          · simp only [Act.put, pA, pB, pC]
            rfl
          refine pure_ (i := 12) (N := some 108) (v := undef) (a' := ?_) (bq 24 8191) rfl rfl (by as_aux_lemma => kernel_rfl) (fun _ _ _ h => h) (Or.inr ⟨by rfl, rfl⟩) ?_ ?_
          rotate_left
          · simp only [Act.put, pA, pB, pC]
            rfl
          refine pure_ (i := 13) (N := some 109) (v := undef) (a' := ?_) (bq 24 16383) rfl rfl (by as_aux_lemma => kernel_rfl) (fun _ _ _ h => h) (Or.inr ⟨by rfl, rfl⟩) ?_ ?_
          rotate_left
          · simp only [Act.put, pA, pB, pC]
            rfl
          refine pure_ (i := 14) (N := some 110) (v := undef) (a' := ?_) (bq 24 32767) rfl rfl (by as_aux_lemma => kernel_rfl) (fun _ _ _ h => h) (Or.inr ⟨by rfl, rfl⟩) ?_ ?_
          rotate_left
          · simp only [Act.put, pA, pB, pC]
            rfl
          refine pure_ (i := 15) (N := some 111) (v := undef) (a' := ?_) (bq 24 65535) rfl rfl (by as_aux_lemma => kernel_rfl) (fun _ _ _ h => h) (Or.inr ⟨by rfl, rfl⟩) ?_ ?_
          rotate_left
          · simp only [Act.put, pA, pB, pC]
            rfl
          refine pure_ (i := 16) (N := some 112) (v := undef) (a' := ?_) (bq 24 131071) rfl rfl (by as_aux_lemma => kernel_rfl) (fun _ _ _ h => h) (Or.inr ⟨by rfl, rfl⟩) ?_ ?_
          rotate_left
          · simp only [Act.put, pA, pB, pC]
            rfl
          refine pure_ (i := 17) (N := some 113) (v := undef) (a' := ?_) (bq 24 262143) rfl rfl (by as_aux_lemma => kernel_rfl) (fun _ _ _ h => h) (Or.inr ⟨by rfl, rfl⟩) ?_ ?_
          rotate_left
          · simp only [Act.put, pA, pB, pC]
            rfl
          refine pure_ (i := 18) (N := some 114) (v := undef) (a' := ?_) (bq 24 524287) rfl rfl (by as_aux_lemma => kernel_rfl) (fun _ _ _ h => h) (Or.inr ⟨by rfl, rfl⟩) ?_ ?_
          rotate_left
          · simp only [Act.put, pA, pB, pC]
            rfl
          refine pure_ (i := 19) (N := some 115) (v := undef) (a' := ?_) (bq 24 1048575) rfl rfl (by as_aux_lemma => kernel_rfl) (fun _ _ _ h => h) (Or.inr ⟨by rfl, rfl⟩) ?_ ?_
          rotate_left
          · simp only [Act.put, pA, pB, pC]
            rfl
          refine pure_ (i := 20) (N := some 116) (v := undef) (a' := ?_) (bq 24 2097151) rfl rfl (by as_aux_lemma => kernel_rfl) (fun _ _ _ h => h) (Or.inr ⟨by rfl, rfl⟩) ?_ ?_
          rotate_left
          · simp only [Act.put, pA, pB, pC]
            rfl
          refine pure_ (i := 21) (N := some 117) (v := undef) (a' := ?_) (bq 24 4194303) rfl rfl (by as_aux_lemma => kernel_rfl) (fun _ _ _ h => h) (Or.inr ⟨by rfl, rfl⟩) ?_ ?_
          rotate_left
          · simp only [Act.put, pA, pB, pC]
            rfl
          refine pure_ (i := 22) (N := some 118) (v := undef) (a' := ?_) (bq 24 8388607) rfl rfl (by as_aux_lemma => kernel_rfl) (fun _ _ _ h => h) (Or.inr ⟨by rfl, rfl⟩) ?_ ?_
          rotate_left
          · simp only [Act.put, pA, pB, pC]
            rfl
          refine pure_ (i := 23) (N := some 119) (v := ?_) (a' := ?_) (bq 24 16777215) rfl rfl (by as_aux_lemma => kernel_rfl) (fun _ _ _ h => h) (Or.inl ⟨by rfl, ?_⟩) ?_ ?_
          rotate_left
          · intro w'
            go_simp
            with_reducible rfl
          rotate_left
          · simp only [Act.put, pA, pB, pC]
            rfl
          refine done_ (by as_aux_lemma => kernel_rfl) ?_
          clear hHeld
          go_wp2_with fail
          exact ⟨⟨ii + 1, hlt, by simp, HBd⟩, by simp [intOf]; omega⟩
end Go.Proofs.Yteabdeohhmbclaa.Wk
