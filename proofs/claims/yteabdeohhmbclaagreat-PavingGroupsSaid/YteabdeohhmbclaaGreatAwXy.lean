import Derived.Test.YteabdeohhmbclaaGreatPvZy
import Derived.Test.YteabdeohhmbclaaGreatGrXy
import Derived.Test.YteabdeohhmbclaaGreatPureAy
import Derived.Test.YteabdeohhmbclaaGreatAwAy
namespace Go.Proofs.YteabdeohhmbclaaGreat.Wk
open Go.RowKit Go.Proofs.Pl Go.Proofs.YteabdeohhmbclaaGreatW.PrintLast
set_option linter.unusedSimpArgs false
set_option linter.unusedVariables false
def nOne : Num := ⟨1, false, 9223372036854775808, -63⟩
def iNul : Iv := ⟨false, zero, zero⟩
def iOne : Iv := ⟨false, zero, nOne⟩
def stillS : List Slc := [⟨nOne, iNul, iNul⟩]
theorem nOne_wf : Wf nOne := by unfold Wf nOne; simp
theorem iNul_wf : WfIv iNul := ⟨zero_wf, zero_wf⟩
theorem stillS_wf : WfTb zero iNul stillS := ⟨zero_wf, iNul_wf, fun x hx => by rw [List.mem_singleton.1 hx]; exact ⟨nOne_wf, iNul_wf, iNul_wf⟩⟩
def stillX (A : Option Addr) (c : Nat) (B : Option Addr) (d : Nat) : PvX := ⟨zero, iNul, A, 1, c, stillS, zero, iNul, B, 1, d, stillS, zero, nOne⟩
section
variable (A : Option Addr) (c : Nat) (B : Option Addr) (d : Nat)
theorem still_ok : paveOk (stillX A c B d) = true := by
 show (mayT ⟨zero, iNul, stillS⟩ && mayT ⟨zero, iNul, stillS⟩ && decide (zero = zero) && decide (endT zero stillS = endT zero stillS)) = true
 rw [show mayT ⟨zero, iNul, stillS⟩ = true from by decide +kernel]
 simp
theorem still_all : allX (stillX A c B d) = iOne := by
 show makeI zero (endT zero stillS) = iOne
 decide +kernel
theorem one_sub : subN nOne zero true = nOne := by rw [subN_zero nOne nOne_wf]; decide +kernel
theorem nul_sub : subI iNul iNul = iNul := by
 have h : ∀ up, addN zero zero up = zero := fun up => by rw [addN_zero zero zero_wf]; decide +kernel
 unfold subI addI2
 rw [show negI iNul = iNul from by decide +kernel, show (noneB iNul || noneB iNul) = false from by decide +kernel]
 rw [if_neg (by decide), show iNul.lo = zero from rfl, show iNul.hi = zero from rfl, h, h]
 decide +kernel
theorem still_over : overT zero iNul stillS iOne = iNul := by decide +kernel
theorem still_out : outX (stillX A c B d) ⟨iOne, iOne⟩ = false := by
 show outP zero iNul stillS zero iNul stillS zero iOne iOne = false
 unfold outP
 rw [if_neg (by decide +kernel)]
 have hm : movesP zero iNul stillS iOne iOne = false := by
  unfold movesP
  rw [still_over, nul_sub]
  decide +kernel
 rw [hm, show iOne.hi = nOne from rfl, show iOne.lo = zero from rfl, one_sub]
 decide +kernel
theorem still_spl : splP nOne ⟨iOne, iOne⟩ = none := by
 have hw : widthI iOne = nOne := by
  unfold widthI
  rw [show fairI iOne = iOne from by decide +kernel]
  exact one_sub
 unfold splP
 refine if_pos ?_
 generalize splitsI iOne = q
 rw [hw, show cmpN (mostN [nOne, nOne]) nOne = 0 from by decide +kernel, show decide ((0 : Int) ≤ 0) = true from rfl, Bool.true_or]
theorem still_one : lkN (stillX A c B d) iOne 1 = ([], [⟨⟨iOne, iOne⟩, 0⟩]) := by
 have e0 : lkN (stillX A c B d) iOne 0 = ([] ++ [⟨iOne, iOne⟩], []) := rfl
 rw [lkN_succ, e0, lookS_snoc', still_out, show (stillX A c B d).f = nOne from rfl, still_spl]
 rfl
theorem still_res10 {k : Nat} {l : List Cl} (h : PvRes (stillX A c B d) 10 k l) : k = 1 ∧ l = [⟨⟨iOne, iOne⟩, 0⟩] := by
 obtain ⟨h1, h2, h3, h4⟩ := h.2 (still_ok A c B d)
 rw [still_all] at h2 h3 h4
 have hk : k = 1 := by
  have e1 := still_one A c B d
  rcases Nat.lt_or_ge 1 k with hlt | hge
  ·exact absurd (by rw [e1]) (h2 1 hlt)
  ·rcases Nat.eq_or_lt_of_le hge with e | hlt
   ·exact e
   ·have e0 : k = 0 := by omega
    subst e0
    exact absurd (h3 (by decide)) (by simp [lkN, lookN])
 subst hk
 refine ⟨rfl, ?_⟩
 rw [h4, still_one]
 rfl
theorem still_res0 {k : Nat} {l : List Cl} (h : PvRes (stillX A c B d) 0 k l) : k = 0 ∧ l = [⟨⟨iOne, iOne⟩, 1⟩] := by
 obtain ⟨h1, h2, h3, h4⟩ := h.2 (still_ok A c B d)
 rw [still_all] at h4
 have hk : k = 0 := by omega
 subst hk
 exact ⟨rfl, h4⟩
theorem groups_one (t : Nat → Nat → Bool) : (groupsP t 1).length = 1 := by
 unfold groupsP
 rw [grN_succ, grN_zero]
 rfl
end
theorem ofI_0_0 (w : World) : Calls Tryz.prog 20 #[.i 0, .i 0] w fun e w' => e = .returned (.agg #[.b false, .i 0, .b false, .u 0, .i 0, .i 0, .b false, .u 0, .i 0]) ∧ Below w.heap.size w w' := by
 have HM := Lib.hid (fun W => makeI_calls 0 false 0 0 0 false 0 0 W)
 rw [show makeI ⟨0, false, 0, 0⟩ ⟨0, false, 0, 0⟩ = ⟨false, ⟨0, false, 0, 0⟩, ⟨0, false, 0, 0⟩⟩ from by decide +kernel] at HM
 go_enter Tryz.func20, Tryz.ntmps20
 have B0 := Lib.hid (Blk.new w 34 #[.b false, .i 0, .b false, .u 0, .i 0, .i 0, .b false, .u 0, .i 0])
 go_wp2_with (first
  | (go_at_call 9; first | (have h0 := B0; clear B0; (with_reducible refine (of_0 _).mono ?_); rintro e w1 ⟨rfl, hb⟩; have BR1 := (Blk.new w _ _).call hb; have HB1 := bl_trans (bl_alloc (Below.refl w.heap.size w) _) hb; clear hb h0) | ((with_reducible refine (of_0 _).mono ?_); rintro e w2 ⟨rfl, hb⟩; have BR2 := BR1.call hb; have HB2 := bl_trans HB1 hb; clear hb BR1 HB1))
  | (go_at_call 16; refine (HM.out _).mono ?_; rintro e w3 ⟨rfl, hb⟩; have BR3 := BR2.call hb; have HB3 := bl_trans HB2 hb; obtain ⟨W4, hW4, B4, _, hL, hzz⟩ := put9 BR3 (.b false) (.i 0) (.b false) (.u 0) (.i 0) (.i 0) (.b false) (.u 0) (.i 0); have HB4 := hL w HB3 (Nat.le_refl _); obtain ⟨⟨q0, q1, q2, q3, q4, q5, q6, q7, q8⟩, ⟨f0, f1, f2, f3, f4, f5, f6, f7, f8⟩⟩ := BR3.c9; clear hb BR2 BR3 HB2 HB3 hL hzz))
 exact bodyPost_ret (results_cell_row rfl _ _ w.heap.size 34 #[.b false, .i 0, .b false, .u 0, .i 0, .i 0, .b false, .u 0, .i 0] (0, 0) _ rfl B4 Tryz.underlying34 rfl (by kernel_rfl)) rfl ⟨rfl, HB4⟩
theorem slT_one {w : World} {g B : Nat} {T : TypeId} {x : Slc} (h : Blk w g T (slcCells x).toArray) (hB : g < B) : SlT w B (some ⟨g, 0, none⟩) 1 [x] := by
 refine ⟨rfl, fun _ => ⟨g, 0, rfl, hB, fun i z hz j u hu => ?_⟩⟩
 match i, hz with
 | 0, hz =>
  simp only [List.getElem?_cons_zero, Option.some.injEq] at hz
  subst hz
  simp only [Nat.zero_mul, Nat.zero_add]
  exact h.at_ j (by simpa using hu)
 | i + 1, hz => simp at hz
theorem run_stG {W : World} {a : Act} {oi : Oper} (ty : TypeId) (p q : Operand) (ho : oi.op = .store ty p q) (g : Nat) (zs cs : Array Value) (hB : Blk W g ty zs) (hp : a.eval p = .pointer (some ⟨g, 0, none⟩)) (hq : a.eval q = .agg cs) (hi : (Tryz.prog.info? ty).map (·.size) = some cs.size) (hz : zs.size = cs.size) (h1 : cs.all (·.oneCell') = true) :
  (execOp a.eval oi).run Tryz.prog W = .ok .skip (W.setRow g cs) := by
 unfold execOp
 simp only [ho, hp, hq, Instr.storeAt, Instr.sureAddr, Sem.run_bind, Sem.run_pure, Result.andThen_ok, run_storeVar_row W g ty ty zs cs hB hi hz h1]
def zTb : Array Value := #[.i 0, .b false, .u 0, .i 0, .b false, .i 0, .b false, .u 0, .i 0, .i 0, .b false, .u 0, .i 0, .slice none 0 0]
set_option maxRecDepth 100000 in
set_option maxHeartbeats 4000000 in
theorem still_calls (w : World) : Calls Tryz.prog 8 #[] w fun e w' => ∃ g, e = .returned (.agg #[.i 0, .b false, .u 0, .i 0, .b false, .i 0, .b false, .u 0, .i 0, .i 0, .b false, .u 0, .i 0, .slice (some ⟨g, 0, none⟩) 1 1]) ∧ SlT w' w'.heap.size (some ⟨g, 0, none⟩) 1 stillS ∧ Below w.heap.size w w' := by
 have BT0 : Blk _ w.heap.size 37 zTb := Blk.new w 37 zTb
 have HB0 := bl_alloc (Below.refl w.heap.size w) (.cells zTb 37)
 replace BT0 := Lib.hid BT0
 replace HB0 := Lib.hid HB0
 go_enter Tryz.func8, Tryz.ntmps8
 go_wp2_with (first
  | (go_at_call 20; (with_reducible refine (ofI_0_0 _).mono ?_); rintro e w1 ⟨rfl, hb⟩; have BT := BT0.out.call hb; have HBd := bl_trans HB0.out hb; clear hb)
  | (refine wpList_stG rfl 34 (.tmp 1) (.tmp 2) rfl w1.heap.size _ #[.b false, .i 0, .b false, .u 0, .i 0, .i 0, .b false, .u 0, .i 0] (Blk.new w1 34 zI) rfl rfl (by kernel_rfl) rfl (by simp [Value.oneCell']) ?_; intro W2 BO P2))
 have hgT := BT.lt
 replace BT := (P2.blk (BT.alloc (.cells zI 34)) (by omega)).drew
 replace HBd := bl_drew (P2.bel (bl_alloc HBd (.cells zI 34)) (by have := HBd.size; omega))
 replace BO := BO.drew
 clear P2 HB0 BT0
 refine start_ (n := 8) (S := fun w' => Blk w' w1.heap.size 34 #[.b false, .i 0, .b false, .u 0, .i 0, .i 0, .b false, .u 0, .i 0]) (ds := [7]) (bq 8 0) (by kernel_rfl) rfl rfl BO (fun hHeld => ?_)
 generalize hWW : World.drew _ = w3 at BT BO HBd hHeld ⊢
 clear hWW
 refine ta 0 3 (bq 8 1) rfl (.agg #[.b false, .i 0, .b false, .u 0, .i 0, .i 0, .b false, .u 0, .i 0]) ?_ hHeld (yieldsIf_load_mid (by rfl) 34 (.tmp 1) rfl w1.heap.size 0 rfl [.b false, .i 0, .b false, .u 0, .i 0, .i 0, .b false, .u 0, .i 0] _ (fun _ h => Blk.range h 0 _ rfl) Tryz.underlying34 rfl (by kernel_rfl)) ?_ ?_
 rotate_left
 ·simp only [Act.put, pA, pB, pC]
  rfl
 refine ta 2 5 (bq 8 5) rfl (.agg #[.b false, .i 0, .b false, .u 0, .i 0, .i 0, .b false, .u 0, .i 0]) ?_ hHeld (yieldsIf_load_mid (by rfl) 34 (.tmp 1) rfl w1.heap.size 0 rfl [.b false, .i 0, .b false, .u 0, .i 0, .i 0, .b false, .u 0, .i 0] _ (fun _ h => Blk.range h 0 _ rfl) Tryz.underlying34 rfl (by kernel_rfl)) ?_ ?_
 rotate_left
 ·simp only [Act.put, pA, pB, pC]
  rfl
 refine ta 3 6 (bq 8 13) rfl (.agg #[.b false, .i 0, .b false, .u 0, .i 0, .i 0, .b false, .u 0, .i 0]) ?_ hHeld (yieldsIf_load_mid (by rfl) 34 (.tmp 1) rfl w1.heap.size 0 rfl [.b false, .i 0, .b false, .u 0, .i 0, .i 0, .b false, .u 0, .i 0] _ (fun _ h => Blk.range h 0 _ rfl) Tryz.underlying34 rfl (by kernel_rfl)) ?_ ?_
 rotate_left
 ·simp only [Act.put, pA, pB, pC]
  rfl
 refine on 1 4 (bq 8 15) (fun K hK => ?_)
 refine goes_ Tryz.func9 (by kernel_rfl) rfl #[.i 1] (by first | rfl | go_simp) rfl rfl (by simp only [List.map_toArray, List.map_cons, List.map_nil] <;> rfl) ?_
 with_reducible refine (of_1 _).mono ?_
 rintro e w4 ⟨rfl, hb⟩
 refine ⟨_, rfl, ?_⟩
 replace BT := BT.call hb
 replace BO := BO.call hb
 replace HBd := bl_trans HBd hb
 refine hK.out _ _ BO (fun hHeld => ?_)
 clear hK K hb
 refine norm_ (a' := ?_) ?_ ?_
 rotate_left
 ·show Act.put _ (some 4) _ = _
  simp only [Act.put, pA, pB, pC]
  rfl
 refine pu 4 7 (bq 8 31) ?_ ?_ (fun _ => ?_) ?_ ?_
 rotate_left 2
 ·go_simp
  with_reducible rfl
 ·simp only [Act.put, pA, pB, pC]
  rfl
 refine on 5 8 (bq 8 63) (fun K hK => ?_)
 refine value_ (v := ?_) (w1 := ?_) (by rfl) rfl ?_ ?_
 rotate_left 2
 ·go_simp
  first | rfl | (constructor <;> rfl)
 have BS : Blk _ w4.heap.size 62 (slcCells ⟨nOne, iNul, iNul⟩).toArray := Blk.new w4 62 #[.i 1, .b false, .u 9223372036854775808, .i (-63), .b false, .i 0, .b false, .u 0, .i 0, .i 0, .b false, .u 0, .i 0, .b false, .i 0, .b false, .u 0, .i 0, .i 0, .b false, .u 0, .i 0]
 have hgt := BT.lt
 replace BT := BT.alloc (.cells #[.i 1, .b false, .u 9223372036854775808, .i (-63), .b false, .i 0, .b false, .u 0, .i 0, .i 0, .b false, .u 0, .i 0, .b false, .i 0, .b false, .u 0, .i 0, .i 0, .b false, .u 0, .i 0] 62)
 replace BO := BO.alloc (.cells #[.i 1, .b false, .u 9223372036854775808, .i (-63), .b false, .i 0, .b false, .u 0, .i 0, .i 0, .b false, .u 0, .i 0, .b false, .i 0, .b false, .u 0, .i 0, .i 0, .b false, .u 0, .i 0] 62)
 replace HBd := bl_alloc HBd (.cells #[.i 1, .b false, .u 9223372036854775808, .i (-63), .b false, .i 0, .b false, .u 0, .i 0, .i 0, .b false, .u 0, .i 0, .b false, .i 0, .b false, .u 0, .i 0, .i 0, .b false, .u 0, .i 0] 62)
 refine hK.out _ _ BO (fun hHeld => ?_)
 clear hK K
 refine norm_ (a' := ?_) ?_ ?_
 rotate_left
 ·show Act.put _ (some 8) _ = _
  simp only [Act.put, pA, pB, pC]
  rfl
 refine pu 6 9 (bq 8 127) ?_ ?_ (fun _ => ?_) ?_ ?_
 rotate_left 2
 ·go_simp
  with_reducible rfl
 ·simp only [Act.put, pA, pB, pC]
  rfl
 refine last_ (i := 7) (N := none) (bq 8 255) rfl rfl (by kernel_rfl) (by decide) (fun K hK => ?_)
 refine skip_ (w1 := ?_) (by rfl) rfl ?_ ?_
 rotate_left
 ·refine run_stG 37 (.tmp 0) (.tmp 9) ?_ w.heap.size zTb #[.i 0, .b false, .u 0, .i 0, .b false, .i 0, .b false, .u 0, .i 0, .i 0, .b false, .u 0, .i 0, .slice (some ⟨w4.heap.size, 0, none⟩) 1 1] BT ?_ ?_ ?_ ?_ ?_
  all_goals first | rfl | kernel_rfl | simp [Value.oneCell']
 refine hK.out _ _ ?_
 clear hK K
 refine done_ (by kernel_rfl) ?_
 clear hHeld
 go_wp2_with fail
 have BT' := setRow_heap _ w.heap.size _ #[.i 0, .b false, .u 0, .i 0, .b false, .i 0, .b false, .u 0, .i 0, .i 0, .b false, .u 0, .i 0, .slice (some ⟨w4.heap.size, 0, none⟩) 1 1] 37 (0, 0) BT
 refine bodyPost_ret (results_cell_row rfl _ _ w.heap.size 37 _ (0, 0) _ rfl BT' Tryz.underlying37 rfl (by kernel_rfl)) rfl ⟨w4.heap.size, rfl, ?_, ?_⟩
 ·have P := Put.row (w4.alloc (.cells #[.i 1, .b false, .u 9223372036854775808, .i (-63), .b false, .i 0, .b false, .u 0, .i 0, .i 0, .b false, .u 0, .i 0, .b false, .i 0, .b false, .u 0, .i 0, .i 0, .b false, .u 0, .i 0] 62)) w.heap.size #[.i 0, .b false, .u 0, .i 0, .b false, .i 0, .b false, .u 0, .i 0, .i 0, .b false, .u 0, .i 0, .slice (some ⟨w4.heap.size, 0, none⟩) 1 1]
  exact slT_one (P.blk BS (by omega)) (by rw [P.size]; exact BS.lt)
 ·exact (Put.row _ w.heap.size #[.i 0, .b false, .u 0, .i 0, .b false, .i 0, .b false, .u 0, .i 0, .i 0, .b false, .u 0, .i 0, .slice (some ⟨w4.heap.size, 0, none⟩) 1 1]).bel HBd (Nat.le_refl _)
theorem still_ok_ {W : World} {g g' : Nat} (h : SlT W W.heap.size (some ⟨g, 0, none⟩) 1 stillS) (h' : SlT W W.heap.size (some ⟨g', 0, none⟩) 1 stillS) : PvOk W W.heap.size (stillX (some ⟨g, 0, none⟩) 1 (some ⟨g', 0, none⟩) 1) :=
 ⟨h, h', stillS_wf, stillS_wf⟩
theorem pave_still (bud : Nat) (hb : bud ≤ 2000) (g g' : Nat) (W : World) (h : SlT W W.heap.size (some ⟨g, 0, none⟩) 1 stillS) (h' : SlT W W.heap.size (some ⟨g', 0, none⟩) 1 stillS) :
  Calls Tryz.prog 7 #[.agg #[.i 0, .b false, .u 0, .i 0, .b false, .i 0, .b false, .u 0, .i 0, .i 0, .b false, .u 0, .i 0, .slice (some ⟨g, 0, none⟩) 1 1], .agg #[.i 0, .b false, .u 0, .i 0, .b false, .i 0, .b false, .u 0, .i 0, .i 0, .b false, .u 0, .i 0, .slice (some ⟨g', 0, none⟩) 1 1], .agg #[.i 0, .b false, .u 0, .i 0], .agg #[.i 1, .b false, .u 9223372036854775808, .i (-63)], .i bud] W fun e w' => ∃ (v : Value) (k : Nat) (l : List Cl), e = .returned (.tuple #[v, .i k]) ∧ OwnC w' W.heap.size v l ∧ PvRes (stillX (some ⟨g, 0, none⟩) 1 (some ⟨g', 0, none⟩) 1) bud k l ∧ Below W.heap.size W w' :=
 pave_calls (stillX (some ⟨g, 0, none⟩) 1 (some ⟨g', 0, none⟩) 1) bud W (still_ok_ h h') hb
theorem pave_still10 (g g' : Nat) (W : World) (h : SlT W W.heap.size (some ⟨g, 0, none⟩) 1 stillS) (h' : SlT W W.heap.size (some ⟨g', 0, none⟩) 1 stillS) :
  Calls Tryz.prog 7 #[.agg #[.i 0, .b false, .u 0, .i 0, .b false, .i 0, .b false, .u 0, .i 0, .i 0, .b false, .u 0, .i 0, .slice (some ⟨g, 0, none⟩) 1 1], .agg #[.i 0, .b false, .u 0, .i 0, .b false, .i 0, .b false, .u 0, .i 0, .i 0, .b false, .u 0, .i 0, .slice (some ⟨g', 0, none⟩) 1 1], .agg #[.i 0, .b false, .u 0, .i 0], .agg #[.i 1, .b false, .u 9223372036854775808, .i (-63)], .i 10] W fun e w' => ∃ (v : Value) (k : Nat) (l : List Cl), e = .returned (.tuple #[v, .i k]) ∧ OwnC w' W.heap.size v l ∧ PvRes (stillX (some ⟨g, 0, none⟩) 1 (some ⟨g', 0, none⟩) 1) 10 k l ∧ Below W.heap.size W w' :=
 pave_still 10 (by decide) g g' W h h'
theorem pave_still0 (g g' : Nat) (W : World) (h : SlT W W.heap.size (some ⟨g, 0, none⟩) 1 stillS) (h' : SlT W W.heap.size (some ⟨g', 0, none⟩) 1 stillS) :
  Calls Tryz.prog 7 #[.agg #[.i 0, .b false, .u 0, .i 0, .b false, .i 0, .b false, .u 0, .i 0, .i 0, .b false, .u 0, .i 0, .slice (some ⟨g, 0, none⟩) 1 1], .agg #[.i 0, .b false, .u 0, .i 0, .b false, .i 0, .b false, .u 0, .i 0, .i 0, .b false, .u 0, .i 0, .slice (some ⟨g', 0, none⟩) 1 1], .agg #[.i 0, .b false, .u 0, .i 0], .agg #[.i 1, .b false, .u 9223372036854775808, .i (-63)], .i 0] W fun e w' => ∃ (v : Value) (k : Nat) (l : List Cl), e = .returned (.tuple #[v, .i k]) ∧ OwnC w' W.heap.size v l ∧ PvRes (stillX (some ⟨g, 0, none⟩) 1 (some ⟨g', 0, none⟩) 1) 0 k l ∧ Below W.heap.size W w' :=
 pave_still 0 (by decide) g g' W h h'
def cOne (kd : Int) : Cl := ⟨⟨iOne, iOne⟩, kd⟩
theorem slC_cells {w : World} {B : Nat} {A : Option Addr} {kd : Int} (h : SlC w B A 1 [cOne kd]) : ∃ b off, A = some ⟨b, off, none⟩ ∧ b < B ∧ w.cell? ⟨b, off, none⟩ = some (.b false) ∧ w.cell? ⟨b, off + 18, none⟩ = some (.i kd) := by
 obtain ⟨b, off, e, hb, hc⟩ := h.2 (by decide)
 refine ⟨b, off, e, hb, ?_, ?_⟩
 ·have := hc 0 _ rfl 0 (.b false) rfl
  simpa using this
 ·have := hc 0 _ rfl 18 (.i kd) rfl
  simpa using this
theorem ownC_one {w : World} {base : Nat} {v : Value} {kd : Int} (h : OwnC w base v [cOne kd]) : ∃ b off c, v = .slice (some ⟨b, off, none⟩) 1 c ∧ SlC w w.heap.size (some ⟨b, off, none⟩) 1 [cOne kd] ∧ b < w.heap.size ∧ w.cell? ⟨b, off, none⟩ = some (.b false) ∧ w.cell? ⟨b, off + 18, none⟩ = some (.i kd) := by
 obtain ⟨A, c, e, hs⟩ := OwnG.sl clCells_length (by decide) h
 obtain ⟨b, off, rfl, hb, h1, h2⟩ := slC_cells hs
 exact ⟨b, off, c, e, hs, hb, h1, h2⟩
set_option maxRecDepth 100000 in
set_option maxHeartbeats 8000000 in
theorem awake20_calls (w : World) : Calls Tryz.prog 4 #[] w fun e w' => e = .returned (.b true) ∧ Below w.heap.size w w' := by
 have HB0 := Below.refl w.heap.size w
 go_enter Tryz.func4, Tryz.ntmps4
 go_wp2_with (first
  | (go_at_call 8; first
   | ((with_reducible refine (still_calls w).mono ?_); rintro e w1 ⟨g1, rfl, S1, hb⟩; have HB1 := bl_trans HB0 hb; replace S1 := Lib.hid S1; clear hb HB0)
   | ((with_reducible refine (still_calls w1).mono ?_); rintro e w2 ⟨g2, rfl, S2, hb⟩; have HB2 := bl_trans HB1 hb; have S1' := Lib.hid (S1.out.on hb); replace S2 := Lib.hid S2; clear hb HB1 S1)
   | ((with_reducible refine (still_calls w4).mono ?_); rintro e w5 ⟨g5, rfl, S5, hb⟩; have HB5 := bl_trans HB4 hb; have C5 := Lib.hid (C4.out.call hb); replace S5 := Lib.hid S5; clear hb HB4 C4)
   | ((with_reducible refine (still_calls w5).mono ?_); rintro e w6 ⟨g6, rfl, S6, hb⟩; have HB6 := bl_trans HB5 hb; have C6 := Lib.hid (C5.out.call hb); have S5' := Lib.hid (S5.out.on hb); replace S6 := Lib.hid S6; clear hb HB5 C5 S5))
  | (go_at_call 9; first
   | ((with_reducible refine (of_1 w2).mono ?_); rintro e w3 ⟨rfl, hb⟩; have HB3 := bl_trans HB2 hb; have SA := Lib.hid (S1'.out.on hb); have SB := Lib.hid (S2.out.on hb); clear hb HB2 S1' S2)
   | ((with_reducible refine (of_1 w6).mono ?_); rintro e w7 ⟨rfl, hb⟩; have HB7 := bl_trans HB6 hb; have C7 := Lib.hid (C6.out.call hb); have SC := Lib.hid (S5'.out.on hb); have SD := Lib.hid (S6.out.on hb); clear hb HB6 C6 S5' S6))
  | (go_at_call 7; first
   | ((with_reducible refine (pave_still10 g1 g2 w3 SA.out SB.out).mono ?_); rintro e w4 ⟨v4, k4, l4, rfl, C4, R4, hb⟩; obtain ⟨rfl, rfl⟩ := still_res10 _ _ _ _ R4; have HB4 := bl_trans HB3 hb; obtain ⟨b4, o4, c4, rfl, _⟩ := ownC_one C4; replace C4 := Lib.hid C4; clear hb HB3 SA SB R4)
   | ((with_reducible refine (pave_still0 g5 g6 w7 SC.out SD.out).mono ?_); rintro e w8 ⟨v8, k8, l8, rfl, C8, R8, hb⟩; obtain ⟨rfl, rfl⟩ := still_res0 _ _ _ _ R8; have HB8 := bl_trans HB7 hb; obtain ⟨b8, o8, c8, rfl, _, _, _, k8_⟩ := ownC_one C8; obtain ⟨b4', o4', c4', e4, S8, hb4, k4a, k4b⟩ := ownC_one (C7.out.call hb); (injection e4 with e4a e4b e4c); (injection e4a with e4a); (injection e4a with e4d e4e); subst e4d; subst e4e; subst e4c; have HG := Lib.hid (groups_calls _ 1 c4 _ w8 S8 (by decide)); clear hb HB7 C7 R8 C8 S8))
  | (go_at_call 5; (with_reducible refine HG.out.mono ?_); rintro e w9 ⟨v9, hds, rfl, OH9, O29, hb⟩; have HB9 := bl_trans HB8 hb; obtain ⟨A9, c9, rfl⟩ := OH9.form; have hl9 : hds.length = 1 := O29.length.trans (groups_one _); rw [hl9] at *; have k9 : w9.cell? ⟨b4, o4, none⟩ = some (.b false) := (hb.cell (p := ⟨b4, o4, none⟩) hb4).trans k4a; clear hb OH9 O29))
 go_ret
 exact ⟨rfl, HB9⟩
end Go.Proofs.YteabdeohhmbclaaGreat.Wk
