/- Walks: pelorusref17.When (of the last gate), peloruslaw18.Plain (some answer). -/
import Derived.Test.YteabdeohhmbclaaPvXw
import Derived.Test.YteabdeohhmbclaaBoxAw
import Derived.Test.YteabdeohhmbclaaPvBw
import Derived.Test.YteabdeohhmbclaaOpXw
import Derived.Laws.OwnMore
namespace Go.Proofs.Yteabdeohhmbclaa.Wk
open Go.RowKit Go.Proofs.Pl Go.Proofs.YteabdeohhmbclaaW.PrintLast
set_option linter.unusedSimpArgs false
set_option linter.unusedVariables false

set_option maxRecDepth 100000 in
set_option maxHeartbeats 4000000 in
theorem when_calls (s0 : Int) (s1 : Bool) (s2 s3 : Int) (i0 : Bool) (i1 : Int) (i2 : Bool) (i3 i4 i5 : Int) (i6 : Bool) (i7 i8 : Int) (A : Option Addr) (n c : Nat) (xs : List Slc) (w : World) (hs : SlT w w.heap.size A n xs) (hn : n ≤ 1000) :
  Calls Try.prog 11 #[.agg #[.i s0, .b s1, .u s2, .i s3, .b i0, .i i1, .b i2, .u i3, .i i4, .i i5, .b i6, .u i7, .i i8, .slice A n c], .i (n : Int)] w fun e w' => e = .returned (.agg #[.i (endT ⟨s0, s1, s2, s3⟩ xs).k, .b (endT ⟨s0, s1, s2, s3⟩ xs).n, .u (endT ⟨s0, s1, s2, s3⟩ xs).m, .i (endT ⟨s0, s1, s2, s3⟩ xs).e]) ∧ Below w.heap.size w w' := by
 have BR : Blk _ (w.heap.size + 1) 24 #[.i 0, .b false, .u 0, .i 0] := Blk.new1 w (.cells #[.i s0, .b s1, .u s2, .i s3, .b i0, .i i1, .b i2, .u i3, .i i4, .i i5, .b i6, .u i7, .i i8, .slice A n c] 29) _ _
 have HBd := (bl_alloc (bl_alloc (Below.refl w.heap.size w) (.cells #[.i s0, .b s1, .u s2, .i s3, .b i0, .i i1, .b i2, .u i3, .i i4, .i i5, .b i6, .u i7, .i i8, .slice A n c] 29)) (.cells #[.i 0, .b false, .u 0, .i 0] 24))
 rcases Nat.eq_zero_or_pos n with h0 | h0
 ·subst h0
  have he : endT ⟨s0, s1, s2, s3⟩ xs = ⟨s0, s1, s2, s3⟩ := by rw [List.eq_nil_of_length_eq_zero hs.1]; rfl
  rw [he]
  clear hs he
  dsimp only
  go_enter Try.func11, Try.ntmps11
  go_wp2_with (refine wpList_stG rfl 24 (.tmp 4) (.tmp 8) rfl (w.heap.size + 1) _ #[.i s0, .b s1, .u s2, .i s3] BR rfl rfl (by kernel_rfl) rfl (by simp [Value.oneCell']) ?_; intro W9 B9 P9; have HB9 := P9.bel HBd (by omega))
  exact bodyPost_ret (results_cell_row rfl _ _ (w.heap.size + 1) 24 _ (0, 0) _ rfl B9 Try.underlying24 rfl (by kernel_rfl)) rfl ⟨rfl, HB9⟩
 ·obtain ⟨m, rfl⟩ : ∃ m, n = m + 1 := ⟨n - 1, by omega⟩
  obtain ⟨b, off, x, rfl, hbB, hx, hc⟩ := hs.at_ (k := m) (by omega)
  rw [endT_some hs.1 hx]
  have e0 : w.cell? ⟨b, off + m * 22, none⟩ = some (.i x.e.k) := hc 0 _ rfl
  have e1 : w.cell? ⟨b, off + m * 22 + 1, none⟩ = some (.b x.e.n) := hc 1 _ rfl
  have e2 : w.cell? ⟨b, off + m * 22 + 2, none⟩ = some (.u x.e.m) := hc 2 _ rfl
  have e3 : w.cell? ⟨b, off + m * 22 + 3, none⟩ = some (.i x.e.e) := hc 3 _ rfl
  have em : (((m + 1 : Nat) : Int) - 1) = m := by omega
  have eq0 : ¬ (((m + 1 : Nat) : Int) = 0) := by omega
  obtain ⟨⟨x0, x1, x2, x3⟩, xa, xo⟩ := x
  dsimp only at e0 e1 e2 e3 ⊢
  clear hs hc hx
  have hmp : 0 < m + 1 := by omega
  go_enter Try.func11, Try.ntmps11
  go_wp2_with (refine wpList_stG rfl 24 (.tmp 4) (.tmp 15) rfl (w.heap.size + 1) _ #[.i x0, .b x1, .u x2, .i x3] BR rfl rfl (by kernel_rfl) rfl (by simp [Value.oneCell']) ?_; intro W9 B9 P9; have HB9 := P9.bel HBd (by omega))
  exact bodyPost_ret (results_cell_row rfl _ _ (w.heap.size + 1) 24 _ (0, 0) _ rfl B9 Try.underlying24 rfl (by kernel_rfl)) rfl ⟨rfl, HB9⟩
theorem ownI_cells {w : World} {base g : Nat} {v : Value} {xs : List Iv} (h : OwnI w base v xs) (hg : v.ownBlock = some g) : ∃ cur, Blk w g 26 cur := by
 rcases h.2 with ⟨rfl, hn⟩ | ⟨g', cap, cur, rfl, hb, hgg, rest⟩
 ·cases hg
 ·cases hg
  exact ⟨cur, hgg⟩
theorem bl_trans' {B : Nat} {w W W' : World} (h : Below B w W) (hb : Below W.heap.size W W') (hB : B ≤ W.heap.size) : Below B w W' := h.trans (hb.mono hB)
theorem wpList_appR {ops : Array Oper} {o : Oper} {a : Act} {Q : Exit → Act → World → Prop} {w : World} {rest : List Oper} (hgd : o.guard = none) (s x : Operand) (ho : o.op = .call { callee := .builtin .append, args := #[s, x], argTypes := #[33, 33] }) (ht : o.type = 33) (v u v' : Value) (w' : World) (hs : a.eval s = v) (hx : a.eval x = u)
  (hr : (Builtin.append_ #[33, 33] 33 #[v, u]).run Try.prog w = .ok v' w') (h : wpList Try.prog ops Q rest (a.put o.dst v') w') : wpList Try.prog ops Q (o :: rest) a w :=
 wpList_plain hgd fun _ hK => by
  unfold Oper.wp execOp
  simp only [ho, ht, resolve, invoke, builtin, Sem.run_bind, Sem.run_pure, Result.andThen_ok, List.map_toArray, List.map_cons, List.map_nil, hs, hx, hr]
  exact hK _ _ h
def PlR (w0 : World) (n : Nat) (TC : Array Value) (v i : Value) (wr : World) : Prop := ∃ (k : Nat) (L : List Iv), k ≤ n ∧ i = .i k ∧ OwnI wr w0.heap.size v L ∧ L.length = 2 + 3 * k ∧ Below w0.heap.size w0 wr ∧ Blk wr w0.heap.size 29 TC
def PlQ (n6 : Nat) (w6 : World) (v : Value) (wr : World) : Prop := ∃ k : Nat, k ≤ n6 ∧ v = .i (k : Int) ∧ wr = w6
def RetB (e : Ending) : Prop := ∃ b, e = .returned (.b b)
def Rate1 (w : World) (v : Value) (m : Nat) : Prop := (m = 0 ∧ v = .slice none 0 0) ∨ (∃ g y, m = 1 ∧ v = .slice (some ⟨g, 0, none⟩) 1 1 ∧ SlI w w.heap.size (some ⟨g, 0, none⟩) 1 [y])
set_option maxRecDepth 100000 in
set_option maxHeartbeats 8000000 in
theorem plain_calls (s0 : Int) (s1 : Bool) (s2 s3 : Int) (i0 : Bool) (i1 : Int) (i2 : Bool) (i3 i4 i5 : Int) (i6 : Bool) (i7 i8 : Int) (A : Option Addr) (n c : Nat) (xs : List Slc) (rv : Value) (m : Nat) (w : World) (hs : SlT w w.heap.size A n xs) (hr : Rate1 w rv m) :
  Calls Try.prog 7 #[.agg #[.i s0, .b s1, .u s2, .i s3, .b i0, .i i1, .b i2, .u i3, .i i4, .i i5, .b i6, .u i7, .i i8, .slice A n c], rv] w fun e w' => RetB e ∧ Below w.heap.size w w' := by
 have HP := (fun W => pointI_calls s0 s1 s2 s3 W)
 generalize pointI ⟨s0, s1, s2, s3⟩ = p at HP
 obtain ⟨p0, ⟨p1, p2, p3, p4⟩, ⟨p5, p6, p7, p8⟩⟩ := p
 dsimp only at HP
 replace HP := Lib.hid HP
 have BT : Blk _ w.heap.size 29 #[.i s0, .b s1, .u s2, .i s3, .b i0, .i i1, .b i2, .u i3, .i i4, .i i5, .b i6, .u i7, .i i8, .slice A n c] := Blk.new w _ _
 have HBd := bl_alloc (Below.refl w.heap.size w) (.cells #[.i s0, .b s1, .u s2, .i s3, .b i0, .i i1, .b i2, .u i3, .i i4, .i i5, .b i6, .u i7, .i i8, .slice A n c] 29)
 have hm1 : m ≤ 1 := by rcases hr with ⟨h, _⟩ | ⟨_, _, h, _⟩ <;> omega
 have hrl : ∃ R d, rv = .slice R m d := by rcases hr with ⟨rfl, rfl⟩ | ⟨g, y, rfl, rfl, _⟩; exact ⟨_, _, rfl⟩; exact ⟨_, _, rfl⟩
 obtain ⟨R, d, rfl⟩ := hrl
 have hm20 : ¬ (20 : Int) < (m : Int) := by omega
 replace hr := Lib.hid hr
 replace hs := Lib.hid hs
 go_enter Try.func7, Try.ntmps7
 go_wp2_with fail
 replace BT := BT.drew
 replace HBd := bl_drew HBd
 refine start_ (n := 7) (S := fun w' => Blk w' w.heap.size 29 #[.i s0, .b s1, .u s2, .i s3, .b i0, .i i1, .b i2, .u i3, .i i4, .i i5, .b i6, .u i7, .i i8, .slice A n c]) (ds := []) (bq 7 0) (by kernel_rfl) rfl rfl BT (fun hHeld => ?_)
 generalize hWW : World.drew _ = w3 at BT HBd hHeld ⊢
 clear hWW
 refine pu 0 8 (bq 7 1) ?_ ?_ (fun _ => ?_) ?_ ?_
 rotate_left 2
 ·go_simp
  with_reducible rfl
 ·simp only [Act.put, pA, pB, pC]
  rfl
 refine ta 1 9 (bq 7 3) rfl (.agg #[.b i0, .i i1, .b i2, .u i3, .i i4, .i i5, .b i6, .u i7, .i i8]) ?_ hHeld (yieldsIf_load_mid (by rfl) 26 (.tmp 8) rfl w.heap.size 4 rfl [.b i0, .i i1, .b i2, .u i3, .i i4, .i i5, .b i6, .u i7, .i i8] _ (fun _ h => Blk.range h 4 _ rfl) Try.underlying26 rfl (by kernel_rfl)) ?_ ?_
 rotate_left
 ·simp only [Act.put, pA, pB, pC]
  rfl
 refine pu 2 10 (bq 7 7) ?_ ?_ (fun _ => ?_) ?_ ?_
 rotate_left 2
 ·go_simp
  with_reducible rfl
 ·simp only [Act.put, pA, pB, pC]
  rfl
 refine ta 3 11 (bq 7 15) rfl (.agg #[.i s0, .b s1, .u s2, .i s3]) ?_ hHeld (yieldsIf_load_mid (by rfl) 24 (.tmp 10) rfl w.heap.size 0 rfl [.i s0, .b s1, .u s2, .i s3] _ (fun _ h => Blk.range h 0 _ rfl) Try.underlying24 rfl (by kernel_rfl)) ?_ ?_
 rotate_left
 ·simp only [Act.put, pA, pB, pC]
  rfl
 refine one_ (i := 4) (N := some 12) (bq 7 31) rfl rfl (by as_aux_lemma => kernel_rfl) (by decide) (fun K hK => ?_)
 refine goes_ Try.func8 (by kernel_rfl) rfl #[.agg #[.i s0, .b s1, .u s2, .i s3]] (by first | rfl | go_simp) rfl rfl (by simp only [List.map_toArray, List.map_cons, List.map_nil] <;> rfl) ?_
 with_reducible refine (HP.out _).mono ?_
 rintro e w4 ⟨rfl, hb⟩
 refine ⟨_, rfl, ?_⟩
 replace BT := BT.call hb
 replace HBd := bl_trans HBd hb
 refine hK.out _ _ BT (fun hHeld => ?_)
 clear hK K hb
 refine norm_ (a' := ?_) ?_ ?_
 rotate_left
 ·show Act.put _ (some 12) _ = _
  simp only [Act.put, pA, pB, pC]
  rfl
 refine one_ (i := 5) (N := some 13) (bq 7 63) rfl rfl (by as_aux_lemma => kernel_rfl) (by decide) (fun K hK => ?_)
 refine value_ (v := ?_) (w1 := ?_) (by rfl) rfl ?_ ?_
 rotate_left 2
 ·go_simp
  first | rfl | (constructor <;> rfl)
 have BS := Blk.new w4 26 #[.b i0, .i i1, .b i2, .u i3, .i i4, .i i5, .b i6, .u i7, .i i8, .b p0, .i p1, .b p2, .u p3, .i p4, .i p5, .b p6, .u p7, .i p8]
 have O0 : OwnI (w4.alloc (.cells #[.b i0, .i i1, .b i2, .u i3, .i i4, .i i5, .b i6, .u i7, .i i8, .b p0, .i p1, .b p2, .u p3, .i p4, .i p5, .b p6, .u p7, .i p8] 26)) w.heap.size (.slice (some ⟨w4.heap.size, 0, none⟩) 2 2) [⟨i0, ⟨i1, i2, i3, i4⟩, ⟨i5, i6, i7, i8⟩⟩, ⟨p0, ⟨p1, p2, p3, p4⟩, ⟨p5, p6, p7, p8⟩⟩] := ⟨rfl, .inr ⟨w4.heap.size, 2, _, rfl, HBd.size, BS, Nat.le_refl _, by decide, rfl, rfl⟩⟩
 replace BT := BT.alloc (.cells #[.b i0, .i i1, .b i2, .u i3, .i i4, .i i5, .b i6, .u i7, .i i8, .b p0, .i p1, .b p2, .u p3, .i p4, .i p5, .b p6, .u p7, .i p8] 26)
 replace HBd := bl_alloc HBd (.cells #[.b i0, .i i1, .b i2, .u i3, .i i4, .i i5, .b i6, .u i7, .i i8, .b p0, .i p1, .b p2, .u p3, .i p4, .i p5, .b p6, .u p7, .i p8] 26)
 refine hK.out _ _ BT (fun hHeld => ?_)
 clear hK K
 refine norm_ (a' := ?_) ?_ ?_
 rotate_left
 ·show Act.put _ (some 13) _ = _
  simp only [Act.put, pA, pB, pC]
  rfl
 refine pu 6 5 (bq 7 127) ?_ ?_ (fun _ => ?_) ?_ ?_
 rotate_left 2
 ·go_simp
  with_reducible rfl
 ·simp only [Act.put, pA, pB, pC]
  rfl
 refine done_ (by as_aux_lemma => kernel_rfl) ?_
 clear hHeld
 have cT : World.cell? (w4.alloc (.cells #[.b i0, .i i1, .b i2, .u i3, .i i4, .i i5, .b i6, .u i7, .i i8, .b p0, .i p1, .b p2, .u p3, .i p4, .i p5, .b p6, .u p7, .i p8] 26)) ⟨w.heap.size, 13, none⟩ = some (.slice A n c) := BT.cell 13
 by_cases h20 : (20 : Int) < (n : Int)
 ·go_wp2_with fail
  go_ret
  exact ⟨⟨_, rfl⟩, HBd⟩
 have hR0 : PlR w n #[.i s0, .b s1, .u s2, .i s3, .b i0, .i i1, .b i2, .u i3, .i i4, .i i5, .b i6, .u i7, .i i8, .slice A n c] (.slice (some ⟨w4.heap.size, 0, none⟩) 2 2) (.i 0) (w4.alloc (.cells #[.b i0, .i i1, .b i2, .u i3, .i i4, .i i5, .b i6, .u i7, .i i8, .b p0, .i p1, .b p2, .u p3, .i p4, .i p5, .b p6, .u p7, .i p8] 26)) := ⟨0, _, Nat.zero_le _, rfl, O0, rfl, HBd, BT⟩
 replace hR0 := Lib.hid hR0
 have hn20 : n ≤ 20 := by omega
 clear BS O0 BT HBd
 go_wp2_with fail
 go_loopw [5, 6] (fun v i wr => PlR w n #[.i s0, .b s1, .u s2, .i s3, .b i0, .i i1, .b i2, .u i3, .i i4, .i i5, .b i6, .u i7, .i i8, .slice A n c] v i wr) (fun _ i _ => n - (intOf i).toNat)
 case atStart => exact hR0.out
 case round =>
  obtain ⟨k, L, hk, rfl, O, hL, HB, BT⟩ := hrel
  clear hR0
  by_cases hlt : k < n
  rotate_left
  ·have hkn : k = n := by omega
   have cT : wr.cell? ⟨w.heap.size, 13, none⟩ = some (.slice A n c) := BT.cell 13
   have hLl : L.length ≤ 62 := by omega
   obtain ⟨A5, n5, c5, rfl⟩ : ∃ A n c, u5 = .slice A n c := (by obtain ⟨A, c, e, _⟩ := O.sl; exact ⟨A, _, c, e⟩)
   have hap : Hid (∃ v' w' L', (Builtin.append_ #[33, 33] 33 #[.slice A5 n5 c5, .slice R m d]).run Try.prog wr = .ok v' w' ∧ OwnI w' w.heap.size v' L' ∧ L'.length ≤ 63 ∧ Below w.heap.size w w') := by
    rcases hr.out with ⟨_, e⟩ | ⟨g, y, _, e, hy⟩
    ·rw [e]
     obtain ⟨i0, hi, hz0, hz1, hz2⟩ := info_parts infoIv
     exact ⟨_, wr, L, run_append_owned_none (P := Try.prog) (w := wr) w.heap.size 33 _ 26 i0 9 Try.underlying33 hi _ _ _ O, O, by omega, HB⟩
    ·rw [e]
     obtain ⟨v', w', h1, h2, h3, _⟩ := run_appI w.heap.size _ L O 33 _ ⟨g, 0, none⟩ 1 1 [y] ((hy.below HB).more HB.size) (by omega) HB.size
     exact ⟨v', w', _, h1, h2, by simp; omega, HB.grown h3 HB.size (fun k_ hk_ => (O.lt k_ hk_).1)⟩
   obtain ⟨v6, w6, L6, hrun, O6, hL6, HB6⟩ := hap.out
   obtain ⟨A6, c6, rfl, S6⟩ := O6.sl
   clear hap O
   replace hrun := Lib.hid hrun
   replace HB := Lib.hid HB
   replace BT := Lib.hid BT
   replace O6 := Lib.hid O6
   generalize hl6 : L6.length = n6 at S6 hL6 hrun
   replace hl6 := Lib.hid hl6
   go_wp2_with (refine wpList_appR rfl (.tmp 58) (.tmp 59) rfl rfl (.slice A5 n5 c5) (.slice R m d) (.slice A6 n6 c6) w6 rfl rfl hrun.out ?_)
   replace S6 := Lib.hid S6
   replace HB6 := Lib.hid HB6
   have hR7 : Hid (PlQ n6 w6 (.i 0) w6) := ⟨0, Nat.zero_le _, rfl, rfl⟩
   go_loopw [7] (fun v wr => PlQ n6 w6 v wr) (fun v _ => n6 - (intOf v).toNat)
   case atStart => exact hR7.out
   case round =>
    obtain ⟨j, hj, rfl, hw6⟩ := hrel
    obtain rfl : wr = w6 := hw6
    clear hR7
    by_cases hlt6 : j < n6
    rotate_left
    ·go_wp2_with fail
     go_ret
     exact ⟨⟨_, rfl⟩, HB6.out⟩
    obtain ⟨b6, o6, z, rfl, hb6, hz, hcz⟩ := S6.out.at_ hlt6
    have d1 := hcz.2.2.2.2.1
    have d2 := hcz.2.2.2.2.2.2.2.2
    generalize z.lo.e = le at d1
    generalize z.hi.e = he at d2
    clear hcz hz
    by_cases h1 : (300 : Int) < le
    ·go_wp2_with fail
     go_ret
     exact ⟨⟨_, rfl⟩, HB6.out⟩
    by_cases h2 : le < (-300 : Int)
    ·go_wp2_with fail
     go_ret
     exact ⟨⟨_, rfl⟩, HB6.out⟩
    by_cases h3 : (300 : Int) < he
    ·go_wp2_with fail
     go_ret
     exact ⟨⟨_, rfl⟩, HB6.out⟩
    by_cases h4 : he < (-300 : Int)
    ·go_wp2_with fail
     go_ret
     exact ⟨⟨_, rfl⟩, HB6.out⟩
    go_wp2_with fail
    exact ⟨⟨j + 1, hlt6, by simp, rfl⟩, by simp [intOf]; omega⟩
  obtain ⟨b, off, x, rfl, hbb, hx, hcx⟩ := hs.out.at_ hlt
  obtain ⟨⟨e0, e1, e2, e3⟩, ⟨a0, ⟨a1, a2, a3, a4⟩, ⟨a5, a6, a7, a8⟩⟩, ⟨f0, ⟨f1, f2, f3, f4⟩, ⟨f5, f6, f7, f8⟩⟩⟩ := x
  have cT : wr.cell? ⟨w.heap.size, 13, none⟩ = some (.slice (some ⟨b, off, none⟩) n c) := BT.cell 13
  have RE : w.rangeAt b (off + k * 22) [.i e0, .b e1, .u e2, .i e3] := fun j u hu => hcx j u (by rw [show slcCells ⟨⟨e0, e1, e2, e3⟩, ⟨a0, ⟨a1, a2, a3, a4⟩, ⟨a5, a6, a7, a8⟩⟩, ⟨f0, ⟨f1, f2, f3, f4⟩, ⟨f5, f6, f7, f8⟩⟩⟩ = [.i e0, .b e1, .u e2, .i e3] ++ ([.b a0, .i a1, .b a2, .u a3, .i a4, .i a5, .b a6, .u a7, .i a8] ++ [.b f0, .i f1, .b f2, .u f3, .i f4, .i f5, .b f6, .u f7, .i f8]) from rfl, List.getElem?_append_left (List.getElem?_eq_some_iff.1 hu).1]; exact hu)
  have RA : w.rangeAt b (off + k * 22 + 4) [.b a0, .i a1, .b a2, .u a3, .i a4, .i a5, .b a6, .u a7, .i a8] := fun j u hu => by
   have h := hcx (4 + j) u (by rw [show slcCells ⟨⟨e0, e1, e2, e3⟩, ⟨a0, ⟨a1, a2, a3, a4⟩, ⟨a5, a6, a7, a8⟩⟩, ⟨f0, ⟨f1, f2, f3, f4⟩, ⟨f5, f6, f7, f8⟩⟩⟩ = [.i e0, .b e1, .u e2, .i e3] ++ ([.b a0, .i a1, .b a2, .u a3, .i a4, .i a5, .b a6, .u a7, .i a8] ++ [.b f0, .i f1, .b f2, .u f3, .i f4, .i f5, .b f6, .u f7, .i f8]) from rfl, List.getElem?_append_right (by simp), List.getElem?_append_left (by have := (List.getElem?_eq_some_iff.1 hu).1; simp at this ⊢; omega)]; simpa using hu)
   rwa [← Nat.add_assoc] at h
  have RF : w.rangeAt b (off + k * 22 + 13) [.b f0, .i f1, .b f2, .u f3, .i f4, .i f5, .b f6, .u f7, .i f8] := fun j u hu => by
   have h := hcx (13 + j) u (by rw [show slcCells ⟨⟨e0, e1, e2, e3⟩, ⟨a0, ⟨a1, a2, a3, a4⟩, ⟨a5, a6, a7, a8⟩⟩, ⟨f0, ⟨f1, f2, f3, f4⟩, ⟨f5, f6, f7, f8⟩⟩⟩ = ([.i e0, .b e1, .u e2, .i e3] ++ [.b a0, .i a1, .b a2, .u a3, .i a4, .i a5, .b a6, .u a7, .i a8]) ++ [.b f0, .i f1, .b f2, .u f3, .i f4, .i f5, .b f6, .u f7, .i f8] from rfl, List.getElem?_append_right (by simp)]; simpa using hu)
   rwa [← Nat.add_assoc] at h
  have HQ := (fun W => pointI_calls e0 e1 e2 e3 W)
  generalize pointI ⟨e0, e1, e2, e3⟩ = q at HQ
  obtain ⟨q0, ⟨q1, q2, q3, q4⟩, ⟨q5, q6, q7, q8⟩⟩ := q
  dsimp only at HQ
  replace HQ := Lib.hid HQ
  replace RE := Lib.hid RE
  replace RA := Lib.hid RA
  replace RF := Lib.hid RF
  obtain ⟨A5, n5, c5, rfl⟩ : ∃ A n c, u5 = .slice A n c := (by obtain ⟨A, c, e, _⟩ := O.sl; exact ⟨A, _, c, e⟩)
  replace O := Lib.hid O
  replace HB := Lib.hid HB
  replace BT := Lib.hid BT
  clear hcx hx
  go_wp2_with (first
   | (refine wpList_load_mid rfl 26 (.tmp 35) rfl b (off + k * 22 + 4) rfl [.b a0, .i a1, .b a2, .u a3, .i a4, .i a5, .b a6, .u a7, .i a8] _ (Rng.below RA.out HB.out hbb) Try.underlying26 rfl (by kernel_rfl) ?_)
   | (refine wpList_appI rfl (.tmp 30) (.tmp 37) rfl w.heap.size (.slice A5 n5 c5) L rfl (O.out.alloc (.cells #[.b a0, .i a1, .b a2, .u a3, .i a4, .i a5, .b a6, .u a7, .i a8] 26)) (wr.heap.size + 1) ⟨wr.heap.size, 0, none⟩ 1 1 [⟨a0, ⟨a1, a2, a3, a4⟩, ⟨a5, a6, a7, a8⟩⟩] rfl (SlI.one (x := ⟨a0, ⟨a1, a2, a3, a4⟩, ⟨a5, a6, a7, a8⟩⟩) (Blk.new wr _ _) (by omega)) (by first | omega | (simp; omega)) (Nat.le_trans HB.out.size (by simp)) ?_; intro v1 w1 O1 hg_ _; obtain ⟨A1_, n1_, c1_, rfl⟩ : ∃ A n c, v1 = .slice A n c := (by obtain ⟨A, c, e, _⟩ := O1.sl; exact ⟨A, _, c, e⟩); have B1 := (bl_alloc HB.out (.cells #[.b a0, .i a1, .b a2, .u a3, .i a4, .i a5, .b a6, .u a7, .i a8] 26)).grown hg_ (Nat.le_trans HB.out.size (by simp)) (fun k_ hk_ => ((O.out.alloc (.cells #[.b a0, .i a1, .b a2, .u a3, .i a4, .i a5, .b a6, .u a7, .i a8] 26)).lt k_ hk_).1); have T1 := (BT.out.alloc (.cells #[.b a0, .i a1, .b a2, .u a3, .i a4, .i a5, .b a6, .u a7, .i a8] 26)).grown hg_ (fun e => by obtain ⟨cur, hc⟩ := ownI_cells (O.out.alloc (.cells #[.b a0, .i a1, .b a2, .u a3, .i a4, .i a5, .b a6, .u a7, .i a8] 26)) e.symm; exact blk_ne (BT.out.alloc (.cells #[.b a0, .i a1, .b a2, .u a3, .i a4, .i a5, .b a6, .u a7, .i a8] 26)) hc (by decide) rfl); have cT : w1.cell? ⟨w.heap.size, 13, none⟩ = some (.slice (some ⟨b, off, none⟩) n c) := T1.cell 13; replace O1 := Lib.hid O1; replace B1 := Lib.hid B1; replace T1 := Lib.hid T1; clear hg_)
   | (refine wpList_load_mid rfl 26 (.tmp 44) rfl b (off + k * 22 + 13) rfl [.b f0, .i f1, .b f2, .u f3, .i f4, .i f5, .b f6, .u f7, .i f8] _ (Rng.below RF.out B1.out hbb) Try.underlying26 rfl (by kernel_rfl) ?_)
   | (refine wpList_appI rfl (.tmp 39) (.tmp 46) rfl w.heap.size (.slice A1_ n1_ c1_) (L ++ [⟨a0, ⟨a1, a2, a3, a4⟩, ⟨a5, a6, a7, a8⟩⟩]) rfl (O1.out.alloc (.cells #[.b f0, .i f1, .b f2, .u f3, .i f4, .i f5, .b f6, .u f7, .i f8] 26)) (w1.heap.size + 1) ⟨w1.heap.size, 0, none⟩ 1 1 [⟨f0, ⟨f1, f2, f3, f4⟩, ⟨f5, f6, f7, f8⟩⟩] rfl (SlI.one (x := ⟨f0, ⟨f1, f2, f3, f4⟩, ⟨f5, f6, f7, f8⟩⟩) (Blk.new w1 _ _) (by omega)) (by first | omega | (simp; omega)) (Nat.le_trans B1.out.size (by simp)) ?_; intro v2 w2 O2 hg_ _; obtain ⟨A2_, n2_, c2_, rfl⟩ : ∃ A n c, v2 = .slice A n c := (by obtain ⟨A, c, e, _⟩ := O2.sl; exact ⟨A, _, c, e⟩); have B2 := (bl_alloc B1.out (.cells #[.b f0, .i f1, .b f2, .u f3, .i f4, .i f5, .b f6, .u f7, .i f8] 26)).grown hg_ (Nat.le_trans B1.out.size (by simp)) (fun k_ hk_ => ((O1.out.alloc (.cells #[.b f0, .i f1, .b f2, .u f3, .i f4, .i f5, .b f6, .u f7, .i f8] 26)).lt k_ hk_).1); have T2 := (T1.out.alloc (.cells #[.b f0, .i f1, .b f2, .u f3, .i f4, .i f5, .b f6, .u f7, .i f8] 26)).grown hg_ (fun e => by obtain ⟨cur, hc⟩ := ownI_cells (O1.out.alloc (.cells #[.b f0, .i f1, .b f2, .u f3, .i f4, .i f5, .b f6, .u f7, .i f8] 26)) e.symm; exact blk_ne (T1.out.alloc (.cells #[.b f0, .i f1, .b f2, .u f3, .i f4, .i f5, .b f6, .u f7, .i f8] 26)) hc (by decide) rfl); have cT : w2.cell? ⟨w.heap.size, 13, none⟩ = some (.slice (some ⟨b, off, none⟩) n c) := T2.cell 13; replace O2 := Lib.hid O2; replace B2 := Lib.hid B2; replace T2 := Lib.hid T2; clear hg_)
   | (refine wpList_load_mid rfl 24 (.tmp 53) rfl b (off + k * 22) rfl [.i e0, .b e1, .u e2, .i e3] _ (Rng.below RE.out B2.out hbb) Try.underlying24 rfl (by kernel_rfl) ?_)
   | (go_at_call 8; (with_reducible refine (HQ.out _).mono ?_); rintro e w3 ⟨rfl, hb⟩; have O3 := Lib.hid (O2.out.call hb); have B3 := Lib.hid (bl_trans' B2.out hb B2.out.size); have T3 := Lib.hid (T2.out.call hb); clear hb)
   | (refine wpList_appI rfl (.tmp 48) (.tmp 56) rfl w.heap.size (.slice A2_ n2_ c2_) (L ++ [⟨a0, ⟨a1, a2, a3, a4⟩, ⟨a5, a6, a7, a8⟩⟩] ++ [⟨f0, ⟨f1, f2, f3, f4⟩, ⟨f5, f6, f7, f8⟩⟩]) rfl (O3.out.alloc (.cells #[.b q0, .i q1, .b q2, .u q3, .i q4, .i q5, .b q6, .u q7, .i q8] 26)) (w3.heap.size + 1) ⟨w3.heap.size, 0, none⟩ 1 1 [⟨q0, ⟨q1, q2, q3, q4⟩, ⟨q5, q6, q7, q8⟩⟩] rfl (SlI.one (x := ⟨q0, ⟨q1, q2, q3, q4⟩, ⟨q5, q6, q7, q8⟩⟩) (Blk.new w3 _ _) (by omega)) (by first | omega | (simp; omega)) (Nat.le_trans B3.out.size (by simp)) ?_; intro v4 w4 O4 hg_ _; have B4 := (bl_alloc B3.out (.cells #[.b q0, .i q1, .b q2, .u q3, .i q4, .i q5, .b q6, .u q7, .i q8] 26)).grown hg_ (Nat.le_trans B3.out.size (by simp)) (fun k_ hk_ => ((O3.out.alloc (.cells #[.b q0, .i q1, .b q2, .u q3, .i q4, .i q5, .b q6, .u q7, .i q8] 26)).lt k_ hk_).1); have T4 := (T3.out.alloc (.cells #[.b q0, .i q1, .b q2, .u q3, .i q4, .i q5, .b q6, .u q7, .i q8] 26)).grown hg_ (fun e => by obtain ⟨cur, hc⟩ := ownI_cells (O3.out.alloc (.cells #[.b q0, .i q1, .b q2, .u q3, .i q4, .i q5, .b q6, .u q7, .i q8] 26)) e.symm; exact blk_ne (T3.out.alloc (.cells #[.b q0, .i q1, .b q2, .u q3, .i q4, .i q5, .b q6, .u q7, .i q8] 26)) hc (by decide) rfl); have cT : w4.cell? ⟨w.heap.size, 13, none⟩ = some (.slice (some ⟨b, off, none⟩) n c) := T4.cell 13; replace O4 := Lib.hid O4; replace B4 := Lib.hid B4; replace T4 := Lib.hid T4; clear hg_))
  exact ⟨⟨k + 1, _, hlt, by simp, O4.out, by simp; omega, B4.out, T4.out⟩, by simp [intOf]; omega⟩
end Go.Proofs.Yteabdeohhmbclaa.Wk
