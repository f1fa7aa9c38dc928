/- Slices of slices that the call makes: appends to them; num.Of and peloruslaw08.Of of the tubes of PavingRuns. -/
import Derived.Test.YteabdeohhmbclaaRuXr
import Derived.Test.YteabdeohhmbclaaOfWr
import Derived.Test.YteabdeohhmbclaaAwXr
namespace Go.Proofs.Yteabdeohhmbclaa.Wk
open Go.RowKit Go.Proofs.Pl Go.Proofs.YteabdeohhmbclaaW.PrintLast
set_option linter.unusedSimpArgs false
set_option linter.unusedVariables false

theorem slcCells_len (x : Slc) : (slcCells x).length = 22 := rfl
theorem slcCells_one (x : Slc) : ∀ u ∈ slcCells x, u.oneCell' = true := fun u hu => by
 simp only [slcCells, List.mem_cons, List.not_mem_nil, or_false] at hu
 rcases hu with rfl | rfl | rfl | rfl | rfl | rfl | rfl | rfl | rfl | rfl | rfl | rfl | rfl | rfl | rfl | rfl | rfl | rfl | rfl | rfl | rfl | rfl <;> rfl
theorem infoSlc : (Try.prog.info? 55).map (fun i => (i.zero, i.size, i.bytes)) = some (some (.agg #[.i 0, .b false, .u 0, .i 0, .b false, .i 0, .b false, .u 0, .i 0, .i 0, .b false, .u 0, .i 0, .b false, .i 0, .b false, .u 0, .i 0, .i 0, .b false, .u 0, .i 0]), 22, 176) := by kernel_rfl
abbrev OwnT (w : World) (base : Nat) (v : Value) (xs : List Slc) : Prop := OwnG slcCells 22 55 w base v xs
theorem OwnT.sl {w : World} {base : Nat} {v : Value} {xs : List Slc} (h : OwnT w base v xs) : ∃ A c, v = .slice A xs.length c ∧ SlT w w.heap.size A xs.length xs := OwnG.sl slcCells_len (by decide) h
theorem run_appT {w : World} (base : Nat) (v : Value) (xs : List Slc) (hown : OwnT w base v xs) (ty : TypeId) (B : Nat) (A : Addr) (m c : Nat) (ys : List Slc) (hys : SlG slcCells 22 w B (some A) m ys) (hsm : xs.length + m ≤ 1000000) (hbase : base ≤ w.heap.size) :
  ∃ v' w', (Builtin.append_ #[27, 27] ty #[v, .slice (some A) m c]).run Try.prog w = .ok v' w' ∧ OwnT w' base v' (xs ++ ys) ∧ w.grownBy w' v.ownBlock ∧ (v'.ownBlock = v.ownBlock ∨ v'.ownBlock = some w.heap.size) := by
 obtain ⟨i0, hi, hz0, hz1, hz2⟩ := info_parts infoSlc
 obtain ⟨v', w', hr, h2, h3, _, h5⟩ := run_append_own_at (P := Try.prog) w base 27 ty 55 i0 _ 22 176 Try.underlying27 hi hz0 hz1 hz2 rfl (by omega) v xs.length (xs.flatMap slcCells) hown A m c (ys.flatMap slcCells) (by rw [flatG_length slcCells_len, hys.1]) (SlG.flat slcCells_len (by decide) hys) (flatG_one slcCells_one ys) (by simp only [maxLen]; omega) (by omega) hbase
 refine ⟨v', w', hr, ?_, h3, h5⟩
 unfold OwnT OwnG
 rw [List.flatMap_append, List.length_append, hys.1]
 exact h2
theorem step_appT {w : World} {ops : Array Oper} {o : Oper} {a : Act} {K : Act → World → Prop} {Q : Exit → Act → World → Prop} {E : Prop} (hgd : o.guard = none) (s x : Operand) (ho : o.op = .call { callee := .builtin .append, args := #[s, x], argTypes := #[27, 27] }) (base : Nat) (v : Value) (xs : List Slc) (hs : a.eval s = v) (hown : OwnT w base v xs) (B : Nat) (A : Addr) (m c : Nat) (ys : List Slc) (hx : a.eval x = .slice (some A) m c) (hys : SlG slcCells 22 w B (some A) m ys) (hsm : xs.length + m ≤ 1000000) (hbase : base ≤ w.heap.size)
  (h : ∀ v' w', OwnT w' base v' (xs ++ ys) → w.grownBy w' v.ownBlock → (v'.ownBlock = v.ownBlock ∨ v'.ownBlock = some w.heap.size) → K (a.put o.dst v') w') : if Region.wanted o (yielded ops a.tmps) = true then Oper.wp Try.prog o a w K Q else E := by
 have hw : Region.wanted o (yielded ops a.tmps) = true := by simp [Region.wanted, hgd]
 rw [if_pos hw]
 obtain ⟨v', w', hr, h1, h2, h3⟩ := run_appT base v xs hown o.type B A m c ys hys hsm hbase
 unfold Oper.wp execOp
 simp only [ho, resolve, invoke, builtin, Sem.run_bind, Sem.run_pure, Result.andThen_ok, List.map_toArray, List.map_cons, List.map_nil, hs, hx, hr]
 exact h _ _ h1 h2 h3
theorem of_calls (n : Int) (h1 : -9223372036854775808 ≤ n) (h2 : n ≤ 9223372036854775807) (w : World) :
  Calls Try.prog 18 #[.i n] w fun e w' => e = .returned (.agg #[.i ((ofN n)).k, .b ((ofN n)).n, .u ((ofN n)).m, .i ((ofN n)).e]) ∧ Below w.heap.size w w' := by
 by_cases h0 : n = 0
 ·subst h0
  rw [ofN_zero]
  exact of_0 w
 ·rw [ofN_pos h0]
  have hs : n.natAbs < 18446744073709551616 := by omega
  obtain ⟨a, b, c⟩ := log_norm (s := n.natAbs) (by omega) hs
  have hl := lead_log (s := n.natAbs) (by omega) hs
  have hL := fun W => lead64_calls (n.natAbs : Int) (by omega) (by omega) W
  rw [Int.toNat_natCast, hl] at hL
  have h := of_walk n (n.natAbs : Int) (63 - n.natAbs.log2) (decide (n < 0)) ((n.natAbs * 2 ^ (63 - n.natAbs.log2) : Nat) : Int) rfl (by omega) (by omega) (fun hb => ?_) (fun hb => ?_) (by rw [cast_shl, Nat.mod_eq_of_lt c]) hL w
  ·have e : -((63 - n.natAbs.log2 : Nat) : Int) = (n.natAbs.log2 : Int) - 63 := by omega
   rw [e] at h
   exact h
  ·have hb' : ¬ n < 0 := by simpa using hb
   show n % _ = _
   rw [Int.emod_eq_of_lt (by omega) (by show n < 18446744073709551616; omega)]
   omega
  ·have hb' : n < 0 := by simpa using hb
   show (-(n % 18446744073709551616)) % 18446744073709551616 = _
   omega
theorem ofI_walk (a0 : Int) (a1 : Bool) (a2 a3 : Int) (b0 : Int) (b1 : Bool) (b2 b3 : Int) (o0 : Bool) (o1 : Int) (o2 : Bool) (o3 o4 o5 : Int) (o6 : Bool) (o7 o8 : Int) (x y : Int)
  (HA : ∀ W, Calls Try.prog 18 #[.i x] W fun e w' => e = .returned (.agg #[.i a0, .b a1, .u a2, .i a3]) ∧ Below W.heap.size W w')
  (HB : ∀ W, Calls Try.prog 18 #[.i y] W fun e w' => e = .returned (.agg #[.i b0, .b b1, .u b2, .i b3]) ∧ Below W.heap.size W w')
  (HM : ∀ W, Calls Try.prog 10 #[.agg #[.i a0, .b a1, .u a2, .i a3], .agg #[.i b0, .b b1, .u b2, .i b3]] W fun e w' => e = .returned (.agg #[.b o0, .i o1, .b o2, .u o3, .i o4, .i o5, .b o6, .u o7, .i o8]) ∧ Below W.heap.size W w') (w : World) :
  Calls Try.prog 17 #[.i x, .i y] w fun e w' => e = .returned (.agg #[.b o0, .i o1, .b o2, .u o3, .i o4, .i o5, .b o6, .u o7, .i o8]) ∧ Below w.heap.size w w' := by
 replace HA := Lib.hid HA
 replace HB := Lib.hid HB
 replace HM := Lib.hid HM
 go_enter Try.func17, Try.ntmps17
 have B0 := Lib.hid (Blk.new w 26 #[.b false, .i 0, .b false, .u 0, .i 0, .i 0, .b false, .u 0, .i 0])
 go_wp2_with (first
  | (go_at_call 18; first | (have h0 := B0; clear B0; (with_reducible refine (HA.out _).mono ?_); rintro e w1 ⟨rfl, hb⟩; have BR1 := (Blk.new w _ _).call hb; have HB1 := bl_trans (bl_alloc (Below.refl w.heap.size w) _) hb; clear hb h0 HA) | ((with_reducible refine (HB.out _).mono ?_); rintro e w2 ⟨rfl, hb⟩; have BR2 := BR1.call hb; have HB2 := bl_trans HB1 hb; clear hb BR1 HB1 HB))
  | (go_at_call 10; refine (HM.out _).mono ?_; rintro e w3 ⟨rfl, hb⟩; have BR3 := BR2.call hb; have HB3 := bl_trans HB2 hb; clear hb)
  | (refine wpList_stG rfl 26 (.tmp 4) (.tmp 9) rfl w.heap.size _ #[.b o0, .i o1, .b o2, .u o3, .i o4, .i o5, .b o6, .u o7, .i o8] BR3 rfl rfl (by kernel_rfl) rfl (by simp [Value.oneCell']) ?_; intro W4 B4 P4))
 exact bodyPost_ret (results_cell_row rfl _ _ w.heap.size 26 _ (0, 0) _ rfl B4 Try.underlying26 rfl (by kernel_rfl)) rfl ⟨rfl, P4.bel HB3 (by omega)⟩
theorem ofI_calls {x y : Int} (hx1 : -9223372036854775808 ≤ x) (hxy : x ≤ y) (hy2 : y ≤ 9223372036854775807) (w : World) :
  Calls Try.prog 17 #[.i x, .i y] w fun e w' => e = .returned (.agg #[.b ((ofIv x y)).emp, .i (((ofIv x y)).lo).k, .b (((ofIv x y)).lo).n, .u (((ofIv x y)).lo).m, .i (((ofIv x y)).lo).e, .i (((ofIv x y)).hi).k, .b (((ofIv x y)).hi).n, .u (((ofIv x y)).hi).m, .i (((ofIv x y)).hi).e]) ∧ Below w.heap.size w w' := by
 have hx := of_calls x hx1 (by omega)
 have hy := of_calls y (by omega) hy2
 have hm := (ofIv_full (Wh.of hx1 (by omega)) (Wh.of (show -9223372036854775808 ≤ y by omega) (by omega)) hxy).1
 have HM := fun W => makeI_calls (ofN x).k (ofN x).n (ofN x).m (ofN x).e (ofN y).k (ofN y).n (ofN y).m (ofN y).e W
 change ∀ W, Calls Try.prog 10 _ W fun e w' => e = .returned (.agg #[.b ((makeI (ofN x) (ofN y))).emp, .i (((makeI (ofN x) (ofN y))).lo).k, .b (((makeI (ofN x) (ofN y))).lo).n, .u (((makeI (ofN x) (ofN y))).lo).m, .i (((makeI (ofN x) (ofN y))).lo).e, .i (((makeI (ofN x) (ofN y))).hi).k, .b (((makeI (ofN x) (ofN y))).hi).n, .u (((makeI (ofN x) (ofN y))).hi).m, .i (((makeI (ofN x) (ofN y))).hi).e]) ∧ _ at HM
 rw [hm] at HM
 exact ofI_walk _ _ _ _ _ _ _ _ _ _ _ _ _ _ _ _ _ x y hx hy HM w
end Go.Proofs.Yteabdeohhmbclaa.Wk
