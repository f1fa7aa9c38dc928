import Derived.Test.YteabdeohhmbclaaGreatRgAy
import Derived.Test.YteabdeohhmbclaaGreatGrXy
import Derived.Test.YteabdeohhmbclaaGreatPureAy
import Derived.Test.YteabdeohhmbclaaGreatPvEy
namespace Go.Proofs.YteabdeohhmbclaaGreat.Wk
open Go.RowKit Go.Proofs.Pl Go.Proofs.YteabdeohhmbclaaGreatW.PrintLast
set_option linter.unusedSimpArgs false
set_option linter.unusedVariables false
theorem wpList_makeZ {ops : Array Oper} {o : Oper} {a : Act} {Q : Exit → Act → World → Prop} {w : World} {rest : List Oper} (hgd : o.guard = none) (x y : Operand) (ho : o.op = .makeSlice 26 x y) (n : Nat) (hx : a.eval x = .i n) (hy : a.eval y = .i n) (hn : n ≤ 1000000)
  (h : ∀ W1, W1 = w.alloc (.cells ((List.replicate n (0 : Int)).map (Value.int .i64)).toArray 3) → wpList Tryz.prog ops Q rest (a.put o.dst (.slice (some ⟨w.heap.size, 0, none⟩) n n)) W1) : wpList Tryz.prog ops Q (o :: rest) a w :=
 wpList_plain hgd fun _ hK => by
  obtain ⟨i0, hi, hz0, hz1, hz2⟩ := info_parts infoInt
  have hr := run_make (P := Tryz.prog) w 26 3 i0 _ Tryz.underlying26 hi hz0 .i64 .i64 n n (by omega) (by omega) (by rw [hz2]; omega) (by omega)
  simp only [Int.toNat_natCast] at hr
  unfold Oper.wp execOp
  simp only [ho, hx, hy, Sem.run_bind, hr, Result.andThen_ok]
  exact hK _ _ (h _ (by rw [hz1, Nat.mul_one, show (Value.int .i64 0).cells = #[Value.int .i64 0] from rfl, infoIntM]))
def nv (l : List Nat) : Array Value := (l.map fun x : Nat => Value.int .i64 (x : Int)).toArray
theorem nv_get {o : List Nat} {i : Nat} (h : i < o.length) : (nv o)[i]? = some (.i ((o.getD i 0 : Nat) : Int)) := by
 unfold nv
 rw [List.getElem?_toArray, List.getElem?_map, List.getElem?_eq_getElem h, List.getD_eq_getElem?_getD, List.getElem?_eq_getElem h]
 rfl
theorem nv_set (o : List Nat) (i x : Nat) : (nv o).setIfInBounds i (.i (x : Int)) = nv (o.set i x) := by
 unfold nv
 rw [List.setIfInBounds_toArray, List.map_set]
theorem nv_zero (n : Nat) : nv (List.replicate n 0) = Array.replicate n (Value.int .i64 0) := by
 unfold nv
 rw [List.map_replicate, List.toArray_replicate]
 rfl
def startL (n i : Nat) : List Nat := List.range i ++ List.replicate (n - i) 0
theorem startL_len {n i : Nat} (h : i ≤ n) : (startL n i).length = n := by unfold startL; rw [List.length_append, List.length_range, List.length_replicate]; omega
theorem startL_set {n i : Nat} (h : i < n) : (startL n i).set i i = startL n (i + 1) := by
 unfold startL
 obtain ⟨m, hm⟩ : ∃ m, n - i = m + 1 := ⟨n - i - 1, by omega⟩
 rw [hm, show n - (i + 1) = m from by omega, List.replicate_succ, List.set_append, if_neg (by rw [List.length_range]; omega), List.length_range, Nat.sub_self, List.set_cons_zero, List.range_succ, List.append_assoc]
 rfl
theorem startL_all (n : Nat) : startL n n = List.range n := by unfold startL; rw [Nat.sub_self]; exact List.append_nil _
section
variable (t : Nat → Nat → Bool) (n : Nat)
theorem rfK_len (i : Nat) (o : List Nat) (k : Nat) : (rfK t i o k).length = o.length := by unfold rfK; split; exact List.length_set; rfl
theorem rfRow_len (i : Nat) (o : List Nat) (m : Nat) : (rfRow t i o m).length = o.length := by
 induction m with
 | zero => rfl
 | succ m ih => rw [rfRow_succ, rfK_len, ih]
theorem rfRound_len (o : List Nat) (m : Nat) : (rfRound t n o m).length = o.length := by
 induction m with
 | zero => rfl
 | succ m ih => rw [rfRound_succ, rfRow_len, ih]
theorem rfN_len (r : Nat) : (rfN t n r).length = n := by
 induction r with
 | zero => exact List.length_range
 | succ r ih => rw [rfN_succ, rfRound_len, ih]
end
theorem rfOut_len (n : Nat) (o : List Nat) (m : Nat) : (rfOut n o m).length ≤ m := by
 induction m with
 | zero => exact Nat.le_refl _
 | succ m ih =>
  rw [rfOut_succ]
  split
  ·rw [List.length_append, List.length_singleton]; omega
  ·omega
theorem rfOne_len (o : List Nat) (f m : Nat) : (rfOne o f m).length ≤ m := by
 unfold rfOne
 have := List.length_filter_le (fun i => o.getD i 0 == f) (List.range m)
 rwa [List.length_range] at this
theorem own_less {w : World} {base base' : Nat} {v : Value} {xs : List Nat} (h : OwnK w base v xs) (hb : base' ≤ base) : OwnK w base' v xs := by
 refine ⟨h.1, ?_⟩
 rcases h.2 with hn | ⟨g, cap, cur, e, hg, rest⟩
 ·exact .inl hn
 ·exact .inr ⟨g, cap, cur, e, Nat.le_trans hb hg, rest⟩
theorem rfOne_succ (o : List Nat) (f m : Nat) : rfOne o f (m + 1) = if (o.getD m 0 == f) = true then rfOne o f m ++ [m] else rfOne o f m := by
 unfold rfOne
 rw [List.range_succ, List.filter_append]
 by_cases h : (o.getD m 0 == f) = true
 ·rw [if_pos h, show List.filter (fun i => o.getD i 0 == f) [m] = [m] by simp only [List.filter, h]]
 ·rw [if_neg h, show List.filter (fun i => o.getD i 0 == f) [m] = [] by simp only [List.filter, h], List.append_nil]
def RgR (w0 W : World) (o : List Nat) : Prop := Below w0.heap.size w0 W ∧ Blk W w0.heap.size 3 (nv o)
theorem RgR.set {w0 W : World} {o : List Nat} (h : RgR w0 W o) (i x : Nat) : RgR w0 (W.setCell ⟨w0.heap.size, i, none⟩ (.i (x : Int))) (o.set i x) :=
 ⟨bl_set h.1 (Nat.le_refl _) _, by rw [← nv_set]; exact h.2.set_ i _⟩
theorem RgR.call {w0 W W' : World} {o : List Nat} (h : RgR w0 W o) (hb : Below W.heap.size W W') : RgR w0 W' o := ⟨bl_trans h.1 hb, h.2.call hb⟩
theorem RgR.drew {w0 W : World} {o : List Nat} (h : RgR w0 W o) : RgR w0 W.drew o := ⟨bl_drew h.1, h.2⟩
def RgF (w0 : World) (n : Nat) (v : Value) (W : World) : Prop := ∃ i : Nat, i ≤ n ∧ v = .i (i : Int) ∧ RgR w0 W (startL n i)
def RgN (w0 : World) (f : Nat → List Nat) (n : Nat) (v : Value) (W : World) : Prop := ∃ i : Nat, i ≤ n ∧ v = .i (i : Int) ∧ RgR w0 W (f i)
structure RgG (w0 W : World) (o : List Nat) (n m : Nat) (v : Value) (hds : List Hd) : Prop where
 own : OwnH W w0.heap.size v hds
 two : Own2 W w0.heap.size hds (rfOut n o m)
 lab : RgR w0 W o
theorem RgG.call {w0 W W' : World} {o : List Nat} {n m : Nat} {v : Value} {hds : List Hd} (h : RgG w0 W o n m v hds) (hb : Below W.heap.size W W') : RgG w0 W' o n m v hds :=
 ⟨OwnG.call h.own hb, h.two.call hb, h.lab.call hb⟩
def RgO (w0 : World) (o : List Nat) (n : Nat) (v i : Value) (W : World) : Prop := ∃ m : Nat, m ≤ n ∧ i = .i (m : Int) ∧ ∃ hds, RgG w0 W o n m v hds
def RgI (w1 : World) (o : List Nat) (n f : Nat) (v i : Value) (W : World) : Prop := ∃ m : Nat, m ≤ n ∧ i = .i (m : Int) ∧ OwnK W w1.heap.size v (rfOne o f m) ∧ Below w1.heap.size w1 W
theorem RgG.more {w0 W W' : World} {o : List Nat} {n m : Nat} {v v' : Value} {hds : List Hd} {A : Option Addr} {k c : Nat} {base : Nat} (h : RgG w0 W o n m v hds) (h1 : OwnK W base (.slice A k c) (rfOne o m n)) (hb : w0.heap.size ≤ base) (hp : 0 < (rfOne o m n).length)
  (hw : OwnH W' w0.heap.size v' (hds ++ [(A, k, c)])) (hg : (W.alloc (.cells #[.slice A k c] 26)).grownBy W' v.ownBlock) : RgG w0 W' o n (m + 1) v' (hds ++ [(A, k, c)]) := by
 have hne : ∀ g t cs, Blk W g t cs → t ≠ 26 → Blk W' g t cs := fun g t cs hc ht => (hc.alloc (.cells #[.slice A k c] 26)).grown hg fun e => by
  obtain ⟨cur, hcur⟩ := h.own.cells e.symm
  exact ht (by
   have a : W.heap[g]? = some (.cells cs t (0, 0)) := hc
   have b : W.heap[g]? = some (.cells cur 26 (0, 0)) := hcur
   rw [a] at b
   cases b
   rfl)
 refine ⟨hw, ?_, ?_, hne _ _ _ h.lab.2 (by decide)⟩
 ·rw [rfOut_succ, if_pos hp]
  refine Own2.snoc ?_ (Own2.mono (fun k' cur _ hc => (hne _ _ _ hc (by decide)).trans hc.symm) h.two)
  exact OwnG.same (own_less h1 hb) fun g hgg => by
   obtain ⟨cur, hcur⟩ := h1.cells hgg
   exact (hne _ _ _ hcur (by decide)).trans hcur.symm
 ·exact (bl_alloc h.lab.1 _).grown hg (bl_alloc h.lab.1 (.cells #[.slice A k c] 26)).size fun k' hk' => (h.own.lt k' hk').1
set_option maxRecDepth 100000 in
set_option maxHeartbeats 32000000 in
theorem rgroups_calls (A : Option Addr) (n c : Nat) (xs : List Cl) (w : World) (hs : SlC w w.heap.size A n xs) (hn : n ≤ 1000) :
  Calls Tryz.prog 6 #[.slice A n c] w fun e w' => ∃ v hds, e = .returned v ∧ OwnH w' w.heap.size v hds ∧ Own2 w' w.heap.size hds (refGr (tL xs) n) ∧ Below w.heap.size w w' := by
 replace hs := Lib.hid hs
 go_enter Tryz.func6, Tryz.ntmps6
 go_wp2_with (refine wpList_makeZ rfl (.tmp 14) (.tmp 14) rfl n rfl rfl (by omega) ?_; intro W1 hW1; subst hW1)
 have hF0 : RgF w n (.i 0) (w.alloc (.cells (Array.replicate n (Value.int .i64 0)) 3)) := by
  refine ⟨0, Nat.zero_le _, rfl, bl_alloc (Below.refl _ _) _, ?_⟩
  rw [show startL n 0 = List.replicate n 0 from rfl, nv_zero]
  exact Blk.new w 3 _
 try simp only [List.map_replicate, List.toArray_replicate]
 replace hF0 := Lib.hid hF0
 go_loopw [4] (fun v wr => RgF w n v wr) (fun v _ => n - (intOf v).toNat)
 case atStart => exact hF0.out
 case round =>
  obtain ⟨i, hi, rfl, HR⟩ := hrel
  clear hF0
  by_cases hlt : i < n
  ·have ci := HR.2.cell i
   have hcl := nv_get (o := startL n i) (i := i) (by rw [startL_len hi]; exact hlt)
   replace ci := ci.trans hcl
   have fi := HR.2.frozen i
   have hset := HR.set i i
   rw [startL_set hlt] at hset
   replace hset := Lib.hid hset
   clear hcl HR
   have hi0 : ¬ (i : Int) < 0 := by omega
   have hig : ¬ (n : Int) ≤ (i : Int) := by omega
   go_wp2_with fail
   exact ⟨⟨i + 1, hlt, by simp, hset.out⟩, by simp [intOf]; omega⟩
  have hin : n = i := by omega
  subst hin
  rw [startL_all] at HR
  have hN0 : RgN w (rfN (tL xs) n) n (.i 0) wr := ⟨0, Nat.zero_le _, rfl, HR⟩
  replace hN0 := Lib.hid hN0
  clear HR
  go_wp2_with fail
  go_loopw [5, 6, 7, 8] (fun v _ _ _ wr => RgN w (rfN (tL xs) n) n v wr) (fun v _ _ _ _ => n - (intOf v).toNat)
  case atStart => exact hN0.out
  case round =>
   obtain ⟨r, hr, rfl, HR⟩ := hrel
   clear hN0
   by_cases hlt : r < n
   ·have hN1 : RgN w (rfRound (tL xs) n (rfN (tL xs) n r)) n (.i 0) wr := ⟨0, Nat.zero_le _, rfl, HR⟩
    replace hN1 := Lib.hid hN1
    clear HR
    go_wp2_with fail
    go_loopw [6, 7, 8] (fun v _ _ wr => RgN w (rfRound (tL xs) n (rfN (tL xs) n r)) n v wr) (fun v _ _ _ => n - (intOf v).toNat)
    case atStart => exact hN1.out
    case round =>
     obtain ⟨i, hi, rfl, HR⟩ := hrel
     clear hN1
     by_cases hlti : i < n
     ·have hN2 : RgN w (rfRow (tL xs) i (rfRound (tL xs) n (rfN (tL xs) n r) i)) n (.i 0) wr := ⟨0, Nat.zero_le _, rfl, HR⟩
      replace hN2 := Lib.hid hN2
      clear HR
      go_wp2_with fail
      go_loopw [7, 8] (fun v _ wr => RgN w (rfRow (tL xs) i (rfRound (tL xs) n (rfN (tL xs) n r) i)) n v wr) (fun v _ _ => n - (intOf v).toNat)
      case atStart => exact hN2.out
      case round =>
       obtain ⟨k, hk, rfl, HR⟩ := hrel
       clear hN2
       by_cases hltk : k < n
       ·have hlen : (rfRow (tL xs) i (rfRound (tL xs) n (rfN (tL xs) n r) i) k).length = n := by rw [rfRow_len, rfRound_len, rfN_len]
        have hsucc := rfRow_succ (tL xs) i (rfRound (tL xs) n (rfN (tL xs) n r) i) k
        generalize rfRow (tL xs) i (rfRound (tL xs) n (rfN (tL xs) n r) i) k = o at HR hlen hsucc
        obtain ⟨bb, off, x, rfl, hbb, hx, hcx⟩ := hs.out.at_ hlti
        obtain ⟨bb', off', y, e', _, hy, hcy⟩ := hs.out.at_ hltk
        injection e' with e'
        injection e' with e1 e2
        subst e1
        subst e2
        have ht : tL xs i k = touchI x y := by unfold tL; rw [hx, hy]
        unfold rfK at hsucc
        rw [ht] at hsucc
        obtain ⟨⟨⟨a0, ⟨a1, a2, a3, a4⟩, ⟨a5, a6, a7, a8⟩⟩, ⟨b0, ⟨b1, b2, b3, b4⟩, ⟨b5, b6, b7, b8⟩⟩⟩, ka⟩ := x
        obtain ⟨⟨⟨c0, ⟨c1, c2, c3, c4⟩, ⟨c5, c6, c7, c8⟩⟩, ⟨d0, ⟨d1, d2, d3, d4⟩, ⟨d5, d6, d7, d8⟩⟩⟩, kc⟩ := y
        have RA : w.rangeAt bb (off + i * 19) [.b a0, .i a1, .b a2, .u a3, .i a4, .i a5, .b a6, .u a7, .i a8, .b b0, .i b1, .b b2, .u b3, .i b4, .i b5, .b b6, .u b7, .i b8] := fun j u hu => hcx j u (by rw [show clCells ⟨⟨⟨a0, ⟨a1, a2, a3, a4⟩, ⟨a5, a6, a7, a8⟩⟩, ⟨b0, ⟨b1, b2, b3, b4⟩, ⟨b5, b6, b7, b8⟩⟩⟩, ka⟩ = [.b a0, .i a1, .b a2, .u a3, .i a4, .i a5, .b a6, .u a7, .i a8, .b b0, .i b1, .b b2, .u b3, .i b4, .i b5, .b b6, .u b7, .i b8] ++ [.i ka] from rfl, List.getElem?_append_left (List.getElem?_eq_some_iff.1 hu).1]; exact hu)
        have RC : w.rangeAt bb (off + k * 19) [.b c0, .i c1, .b c2, .u c3, .i c4, .i c5, .b c6, .u c7, .i c8, .b d0, .i d1, .b d2, .u d3, .i d4, .i d5, .b d6, .u d7, .i d8] := fun j u hu => hcy j u (by rw [show clCells ⟨⟨⟨c0, ⟨c1, c2, c3, c4⟩, ⟨c5, c6, c7, c8⟩⟩, ⟨d0, ⟨d1, d2, d3, d4⟩, ⟨d5, d6, d7, d8⟩⟩⟩, kc⟩ = [.b c0, .i c1, .b c2, .u c3, .i c4, .i c5, .b c6, .u c7, .i c8, .b d0, .i d1, .b d2, .u d3, .i d4, .i d5, .b d6, .u d7, .i d8] ++ [.i kc] from rfl, List.getElem?_append_left (List.getElem?_eq_some_iff.1 hu).1]; exact hu)
        have HT := (fun W => rtouch_calls a0 a1 a2 a3 a4 a5 a6 a7 a8 b0 b1 b2 b3 b4 b5 b6 b7 b8 ka c0 c1 c2 c3 c4 c5 c6 c7 c8 d0 d1 d2 d3 d4 d5 d6 d7 d8 kc W)
        generalize touchI ⟨⟨⟨a0, ⟨a1, a2, a3, a4⟩, ⟨a5, a6, a7, a8⟩⟩, ⟨b0, ⟨b1, b2, b3, b4⟩, ⟨b5, b6, b7, b8⟩⟩⟩, ka⟩ ⟨⟨⟨c0, ⟨c1, c2, c3, c4⟩, ⟨c5, c6, c7, c8⟩⟩, ⟨d0, ⟨d1, d2, d3, d4⟩, ⟨d5, d6, d7, d8⟩⟩⟩, kc⟩ = tt at HT hsucc
        replace HT := Lib.hid HT
        replace hsucc := Lib.hid hsucc
        clear hcx hcy hx hy ht
        have hp := nv_get (o := o) (i := k) (by omega)
        have hq := nv_get (o := o) (i := i) (by omega)
        generalize o.getD k 0 = p at hp hsucc
        generalize o.getD i 0 = q at hq hsucc
        replace hp := Lib.hid hp
        replace hq := Lib.hid hq
        replace hsucc := Lib.hid hsucc
        replace HR := Lib.hid HR
        replace RA := Lib.hid RA
        replace RC := Lib.hid RC
        have hi0 : ¬ (i : Int) < 0 := by omega
        have hig : ¬ (n : Int) ≤ (i : Int) := by omega
        have hk0 : ¬ (k : Int) < 0 := by omega
        have hkg : ¬ (n : Int) ≤ (k : Int) := by omega
        go_wp2_with fail
        replace HR := HR.out.drew
        refine start_ (n := 12) (S := fun w' => w'.rangeAt bb (off + i * 19) [.b a0, .i a1, .b a2, .u a3, .i a4, .i a5, .b a6, .u a7, .i a8, .b b0, .i b1, .b b2, .u b3, .i b4, .i b5, .b b6, .u b7, .i b8] ∧ w'.rangeAt bb (off + k * 19) [.b c0, .i c1, .b c2, .u c3, .i c4, .i c5, .b c6, .u c7, .i c8, .b d0, .i d1, .b d2, .u d3, .i d4, .i d5, .b d6, .u d7, .i d8]) (ds := []) (bq 12 0) (by kernel_rfl) rfl rfl ⟨Rng.below RA.out HR.1 hbb, Rng.below RC.out HR.1 hbb⟩ (fun hHeld => ?_)
        generalize hWW : World.drew _ = w4 at HR hHeld ⊢
        clear hWW
        refine pu 0 44 (bq 12 1) ?_ ?_ (fun _ => ?_) ?_ ?_
        rotate_left 2
        ·go_simp
         with_reducible rfl
        ·simp only [Act.put, pA, pB, pC]
         rfl
        refine pu 1 45 (bq 12 3) ?_ ?_ (fun _ => ?_) ?_ ?_
        rotate_left 2
        ·go_simp
         with_reducible rfl
        ·simp only [Act.put, pA, pB, pC]
         rfl
        refine pu 2 46 (bq 12 7) ?_ ?_ (fun _ => ?_) ?_ ?_
        rotate_left 2
        ·go_simp
         with_reducible rfl
        ·simp only [Act.put, pA, pB, pC]
         rfl
        refine pu 3 47 (bq 12 15) ?_ ?_ (fun _ => ?_) ?_ ?_
        rotate_left 2
        ·go_simp
         with_reducible rfl
        ·simp only [Act.put, pA, pB, pC]
         rfl
        refine ta 4 48 (bq 12 31) rfl (.agg #[.b a0, .i a1, .b a2, .u a3, .i a4, .i a5, .b a6, .u a7, .i a8, .b b0, .i b1, .b b2, .u b3, .i b4, .i b5, .b b6, .u b7, .i b8]) ?_ hHeld (yieldsIf_load_mid (by rfl) 41 (.tmp 47) rfl bb (off + i * 19) rfl [.b a0, .i a1, .b a2, .u a3, .i a4, .i a5, .b a6, .u a7, .i a8, .b b0, .i b1, .b b2, .u b3, .i b4, .i b5, .b b6, .u b7, .i b8] _ (fun _ h => h.1) Tryz.underlying41 rfl (by kernel_rfl)) ?_ ?_
        rotate_left
        ·simp only [Act.put, pA, pB, pC]
         rfl
        refine pu 5 49 (bq 12 63) ?_ ?_ (fun _ => ?_) ?_ ?_
        rotate_left 2
        ·go_simp
         with_reducible rfl
        ·simp only [Act.put, pA, pB, pC]
         rfl
        refine pu 6 50 (bq 12 127) ?_ ?_ (fun _ => ?_) ?_ ?_
        rotate_left 2
        ·go_simp
         with_reducible rfl
        ·simp only [Act.put, pA, pB, pC]
         rfl
        refine pu 7 51 (bq 12 255) ?_ ?_ (fun _ => ?_) ?_ ?_
        rotate_left 2
        ·go_simp
         with_reducible rfl
        ·simp only [Act.put, pA, pB, pC]
         rfl
        refine pu 8 52 (bq 12 511) ?_ ?_ (fun _ => ?_) ?_ ?_
        rotate_left 2
        ·go_simp
         with_reducible rfl
        ·simp only [Act.put, pA, pB, pC]
         rfl
        refine ta 9 53 (bq 12 1023) rfl (.agg #[.b c0, .i c1, .b c2, .u c3, .i c4, .i c5, .b c6, .u c7, .i c8, .b d0, .i d1, .b d2, .u d3, .i d4, .i d5, .b d6, .u d7, .i d8]) ?_ hHeld (yieldsIf_load_mid (by rfl) 41 (.tmp 52) rfl bb (off + k * 19) rfl [.b c0, .i c1, .b c2, .u c3, .i c4, .i c5, .b c6, .u c7, .i c8, .b d0, .i d1, .b d2, .u d3, .i d4, .i d5, .b d6, .u d7, .i d8] _ (fun _ h => h.2) Tryz.underlying41 rfl (by kernel_rfl)) ?_ ?_
        rotate_left
        ·simp only [Act.put, pA, pB, pC]
         rfl
        refine on 10 54 (bq 12 2047) (fun K hK => ?_)
        refine goes_ Tryz.func13 (by kernel_rfl) rfl #[.agg #[.b a0, .i a1, .b a2, .u a3, .i a4, .i a5, .b a6, .u a7, .i a8, .b b0, .i b1, .b b2, .u b3, .i b4, .i b5, .b b6, .u b7, .i b8], .agg #[.b c0, .i c1, .b c2, .u c3, .i c4, .i c5, .b c6, .u c7, .i c8, .b d0, .i d1, .b d2, .u d3, .i d4, .i d5, .b d6, .u d7, .i d8]] (by first | rfl | go_simp) rfl rfl (by simp only [List.map_toArray, List.map_cons, List.map_nil] <;> rfl) ?_
        with_reducible refine (HT.out _).mono ?_
        rintro e w5 ⟨rfl, hb⟩
        refine ⟨_, rfl, ?_⟩
        replace HR := HR.call hb
        refine hK.out _ _ ⟨Rng.below RA.out HR.1 hbb, Rng.below RC.out HR.1 hbb⟩ (fun hHeld => ?_)
        clear hK K hb
        refine norm_ (a' := ?_) ?_ ?_
        rotate_left
        ·show Act.put _ (some 54) _ = _
         simp only [Act.put, pA, pB, pC]
         rfl
        refine pu 11 8 (bq 12 4095) ?_ ?_ (fun _ => ?_) ?_ ?_
        rotate_left 2
        ·go_simp
         with_reducible rfl
        ·simp only [Act.put, pA, pB, pC]
         rfl
        refine done_ (by kernel_rfl) ?_
        clear hHeld HT RA RC
        go_wp2_with fail
        replace HR := HR.drew
        have c1_ := (HR.2.cell k).trans hp.out
        have c2_ := (HR.2.cell i).trans hq.out
        clear hp hq
        cases tt
        ·skip
         refine start_ (n := 12) (S := fun w' => w'.cell? ⟨w.heap.size, k, none⟩ = some (.i (p : Int)) ∧ w'.cell? ⟨w.heap.size, i, none⟩ = some (.i (q : Int))) (ds := []) (bq 12 0) (by kernel_rfl) rfl rfl ⟨c1_, c2_⟩ (fun hHeld => ?_)
         generalize hWW : World.drew _ = w6 at HR hHeld c1_ c2_ ⊢
         clear hWW
         refine pu 0 55 (bq 12 1) ?_ ?_ (fun _ => ?_) ?_ ?_
         rotate_left 2
         ·go_simp
          with_reducible rfl
         ·simp only [Act.put, pA, pB, pC]
          rfl
         refine pu 1 56 (bq 12 3) ?_ ?_ (fun _ => ?_) ?_ ?_
         rotate_left 2
         ·go_simp
          with_reducible rfl
         ·simp only [Act.put, pA, pB, pC]
          rfl
         refine po 2 57 (bq 12 7) ?_ ?_ ?_
         rotate_left
         ·simp only [Act.put, pA, pB, pC]
          rfl
         refine po 3 58 (bq 12 15) ?_ ?_ ?_
         rotate_left
         ·simp only [Act.put, pA, pB, pC]
          rfl
         refine po 4 59 (bq 12 31) ?_ ?_ ?_
         rotate_left
         ·simp only [Act.put, pA, pB, pC]
          rfl
         refine po 5 60 (bq 12 63) ?_ ?_ ?_
         rotate_left
         ·simp only [Act.put, pA, pB, pC]
          rfl
         refine po 6 61 (bq 12 127) ?_ ?_ ?_
         rotate_left
         ·simp only [Act.put, pA, pB, pC]
          rfl
         refine po 7 62 (bq 12 255) ?_ ?_ ?_
         rotate_left
         ·simp only [Act.put, pA, pB, pC]
          rfl
         refine po 8 63 (bq 12 511) ?_ ?_ ?_
         rotate_left
         ·simp only [Act.put, pA, pB, pC]
          rfl
         refine po 9 64 (bq 12 1023) ?_ ?_ ?_
         rotate_left
         ·simp only [Act.put, pA, pB, pC]
          rfl
         refine po 10 65 (bq 12 2047) ?_ ?_ ?_
         rotate_left
         ·simp only [Act.put, pA, pB, pC]
          rfl
         refine pu 11 66 (bq 12 4095) ?_ ?_ (fun _ => ?_) ?_ ?_
         rotate_left 2
         ·go_simp
          with_reducible rfl
         ·simp only [Act.put, pA, pB, pC]
          rfl
         refine done_ (by kernel_rfl) ?_
         clear hHeld c1_ c2_
         go_wp2_with fail
         exact ⟨⟨k + 1, hltk, by simp, by rw [hsucc.out]; exact HR⟩, by simp [intOf]; omega⟩
        by_cases hpq : p < q
        rotate_left
        ·have hpq' : ¬ (p : Int) < (q : Int) := by omega
         have hsel : Hid (rfRow (tL xs) i (rfRound (tL xs) n (rfN (tL xs) n r) i) (k + 1) = o) := Lib.hid (by rw [hsucc.out, if_neg (by simpa using hpq)])
         clear hpq
         refine start_ (n := 12) (S := fun w' => w'.cell? ⟨w.heap.size, k, none⟩ = some (.i (p : Int)) ∧ w'.cell? ⟨w.heap.size, i, none⟩ = some (.i (q : Int))) (ds := []) (bq 12 0) (by kernel_rfl) rfl rfl ⟨c1_, c2_⟩ (fun hHeld => ?_)
         generalize hWW : World.drew _ = w6 at HR hHeld c1_ c2_ ⊢
         clear hWW
         refine pu 0 55 (bq 12 1) ?_ ?_ (fun _ => ?_) ?_ ?_
         rotate_left 2
         ·go_simp
          with_reducible rfl
         ·simp only [Act.put, pA, pB, pC]
          rfl
         refine pu 1 56 (bq 12 3) ?_ ?_ (fun _ => ?_) ?_ ?_
         rotate_left 2
         ·go_simp
          with_reducible rfl
         ·simp only [Act.put, pA, pB, pC]
          rfl
         refine pu 2 57 (bq 12 7) ?_ ?_ (fun _ => ?_) ?_ ?_
         rotate_left 2
         ·go_simp
          with_reducible rfl
         ·simp only [Act.put, pA, pB, pC]
          rfl
         refine pu 3 58 (bq 12 15) ?_ ?_ (fun _ => ?_) ?_ ?_
         rotate_left 2
         ·go_simp
          with_reducible rfl
         ·simp only [Act.put, pA, pB, pC]
          rfl
         refine pu 4 59 (bq 12 31) ?_ ?_ (fun _ => ?_) ?_ ?_
         rotate_left 2
         ·go_simp
          with_reducible rfl
         ·simp only [Act.put, pA, pB, pC]
          rfl
         refine tk 5 60 (bq 12 63) ?_ ?_ ?_ ?_ hHeld ?_
         rotate_left 2
         ·rintro w' ⟨s0_, s1_⟩
          go_simp
          with_reducible rfl
         ·simp only [Act.put, pA, pB, pC]
          rfl
         refine pu 6 61 (bq 12 127) ?_ ?_ (fun _ => ?_) ?_ ?_
         rotate_left 2
         ·go_simp
          with_reducible rfl
         ·simp only [Act.put, pA, pB, pC]
          rfl
         refine pu 7 62 (bq 12 255) ?_ ?_ (fun _ => ?_) ?_ ?_
         rotate_left 2
         ·go_simp
          with_reducible rfl
         ·simp only [Act.put, pA, pB, pC]
          rfl
         refine pu 8 63 (bq 12 511) ?_ ?_ (fun _ => ?_) ?_ ?_
         rotate_left 2
         ·go_simp
          with_reducible rfl
         ·simp only [Act.put, pA, pB, pC]
          rfl
         refine tk 9 64 (bq 12 1023) ?_ ?_ ?_ ?_ hHeld ?_
         rotate_left 2
         ·rintro w' ⟨s0_, s1_⟩
          go_simp
          with_reducible rfl
         ·simp only [Act.put, pA, pB, pC]
          rfl
         refine pu 10 65 (bq 12 2047) ?_ ?_ (fun _ => ?_) ?_ ?_
         rotate_left 2
         ·go_simp
          with_reducible rfl
         ·simp only [Act.put, pA, pB, pC]
          rfl
         refine pu 11 66 (bq 12 4095) ?_ ?_ (fun _ => ?_) ?_ ?_
         rotate_left 2
         ·go_simp
          with_reducible rfl
         ·simp only [Act.put, pA, pB, pC]
          rfl
         refine done_ (by kernel_rfl) ?_
         clear hHeld c1_ c2_
         go_wp2_with fail
         exact ⟨⟨k + 1, hltk, by simp, by rw [hsel.out]; exact HR⟩, by simp [intOf]; omega⟩
        have hpq' : (p : Int) < (q : Int) := by omega
        have hsel : Hid (rfRow (tL xs) i (rfRound (tL xs) n (rfN (tL xs) n r) i) (k + 1) = o.set i p) := Lib.hid (by rw [hsucc.out, if_pos (by simpa using hpq)])
        clear hpq
        refine start_ (n := 12) (S := fun w' => w'.cell? ⟨w.heap.size, k, none⟩ = some (.i (p : Int)) ∧ w'.cell? ⟨w.heap.size, i, none⟩ = some (.i (q : Int))) (ds := []) (bq 12 0) (by kernel_rfl) rfl rfl ⟨c1_, c2_⟩ (fun hHeld => ?_)
        generalize hWW : World.drew _ = w6 at HR hHeld c1_ c2_ ⊢
        clear hWW
        refine pu 0 55 (bq 12 1) ?_ ?_ (fun _ => ?_) ?_ ?_
        rotate_left 2
        ·go_simp
         with_reducible rfl
        ·simp only [Act.put, pA, pB, pC]
         rfl
        refine pu 1 56 (bq 12 3) ?_ ?_ (fun _ => ?_) ?_ ?_
        rotate_left 2
        ·go_simp
         with_reducible rfl
        ·simp only [Act.put, pA, pB, pC]
         rfl
        refine pu 2 57 (bq 12 7) ?_ ?_ (fun _ => ?_) ?_ ?_
        rotate_left 2
        ·go_simp
         with_reducible rfl
        ·simp only [Act.put, pA, pB, pC]
         rfl
        refine pu 3 58 (bq 12 15) ?_ ?_ (fun _ => ?_) ?_ ?_
        rotate_left 2
        ·go_simp
         with_reducible rfl
        ·simp only [Act.put, pA, pB, pC]
         rfl
        refine pu 4 59 (bq 12 31) ?_ ?_ (fun _ => ?_) ?_ ?_
        rotate_left 2
        ·go_simp
         with_reducible rfl
        ·simp only [Act.put, pA, pB, pC]
         rfl
        refine tk 5 60 (bq 12 63) ?_ ?_ ?_ ?_ hHeld ?_
        rotate_left 2
        ·rintro w' ⟨s0_, s1_⟩
         go_simp
         with_reducible rfl
        ·simp only [Act.put, pA, pB, pC]
         rfl
        refine pu 6 61 (bq 12 127) ?_ ?_ (fun _ => ?_) ?_ ?_
        rotate_left 2
        ·go_simp
         with_reducible rfl
        ·simp only [Act.put, pA, pB, pC]
         rfl
        refine pu 7 62 (bq 12 255) ?_ ?_ (fun _ => ?_) ?_ ?_
        rotate_left 2
        ·go_simp
         with_reducible rfl
        ·simp only [Act.put, pA, pB, pC]
         rfl
        refine pu 8 63 (bq 12 511) ?_ ?_ (fun _ => ?_) ?_ ?_
        rotate_left 2
        ·go_simp
         with_reducible rfl
        ·simp only [Act.put, pA, pB, pC]
         rfl
        refine tk 9 64 (bq 12 1023) ?_ ?_ ?_ ?_ hHeld ?_
        rotate_left 2
        ·rintro w' ⟨s0_, s1_⟩
         go_simp
         with_reducible rfl
        ·simp only [Act.put, pA, pB, pC]
         rfl
        refine pu 10 65 (bq 12 2047) ?_ ?_ (fun _ => ?_) ?_ ?_
        rotate_left 2
        ·go_simp
         with_reducible rfl
        ·simp only [Act.put, pA, pB, pC]
         rfl
        refine pu 11 66 (bq 12 4095) ?_ ?_ (fun _ => ?_) ?_ ?_
        rotate_left 2
        ·go_simp
         with_reducible rfl
        ·simp only [Act.put, pA, pB, pC]
         rfl
        refine done_ (by kernel_rfl) ?_
        clear hHeld
        have f2_ := HR.2.frozen i
        have hset := Lib.hid (HR.set i p)
        clear HR
        go_wp2_with fail
        exact ⟨⟨k + 1, hltk, by simp, by rw [hsel.out]; exact hset.out⟩, by simp [intOf]; omega⟩
       have hkn : k = n := by omega
       subst hkn
       replace HR := Lib.hid HR
       go_wp2_with fail
       exact ⟨⟨i + 1, hlti, by simp, by rw [rfRound_succ]; exact HR.out⟩, by simp [intOf]; omega⟩
     have hin : i = n := by omega
     subst hin
     replace HR := Lib.hid HR
     go_wp2_with fail
     exact ⟨⟨r + 1, hlt, by simp, by rw [rfN_succ]; exact HR.out⟩, by simp [intOf]; omega⟩
   have hrn : n = r := by omega
   subst hrn
   have hol := rfN_len (tL xs) n n
   have hgr : refGr (tL xs) n = rfOut n (rfN (tL xs) n n) n := rfl
   generalize rfN (tL xs) n n = o at HR hol hgr
   have hO0 : RgO w o n (.slice none 0 0) (.i 0) wr := ⟨0, Nat.zero_le _, rfl, [], OwnG.nil _ _, trivial, HR⟩
   replace hO0 := Lib.hid hO0
   replace hgr := Lib.hid hgr
   clear HR hs
   go_wp2_with fail
   go_loopw [9, 10, 11, 12] (fun v i _ _ wr => RgO w o n v i wr) (fun _ i _ _ _ => n - (intOf i).toNat)
   case atStart => exact hO0.out
   case round =>
    obtain ⟨m, hm, rfl, hds, HG⟩ := hrel
    clear hO0
    obtain ⟨Ag, ng, cg, rfl⟩ : ∃ A n c, u9 = .slice A n c := (by obtain ⟨A, c, e⟩ := HG.own.form; exact ⟨A, _, c, e⟩)
    by_cases hltm : m < n
    rotate_left
    ·have hmn : m = n := by omega
     subst hmn
     replace HG := Lib.hid HG
     go_wp2_with fail
     go_ret
     exact ⟨_, hds, rfl, HG.out.own, by rw [hgr.out]; exact HG.out.two, HG.out.lab.1⟩
    have hI0 : RgI wr o n m (.slice none 0 0) (.i 0) wr := ⟨0, Nat.zero_le _, rfl, OwnG.nil _ _, Below.refl _ _⟩
    replace hI0 := Lib.hid hI0
    obtain ⟨w7, hw7⟩ : ∃ w7, w7 = wr := ⟨_, rfl⟩
    rw [← hw7] at HG hI0
    have hI0' : Hid (RgI w7 o n m (.slice none 0 0) (.i 0) wr) := Lib.hid (hw7 ▸ hI0.out)
    replace HG := Lib.hid HG
    clear hI0 hw7
    go_wp2_with fail
    go_loopw [11, 12] (fun v i wr => RgI w7 o n m v i wr) (fun _ i _ => n - (intOf i).toNat)
    case atStart => exact hI0'.out
    case round =>
     obtain ⟨i, hi, rfl, OK, HB⟩ := hrel
     clear hI0'
     obtain ⟨Ak, nk, ck, rfl⟩ : ∃ A n c, u11 = .slice A n c := (by obtain ⟨A, c, e⟩ := OK.form; exact ⟨A, _, c, e⟩)
     have hnk : nk = (rfOne o m i).length := by obtain ⟨A, c, e⟩ := OK.form; injection e
     have hl1 := rfOne_len o m i
     by_cases hlti : i < n
     ·have ci := ((HG.out.call HB).lab.2.cell i).trans (nv_get (o := o) (i := i) (by omega))
      have hone := rfOne_succ o m i
      generalize o.getD i 0 = p at ci hone
      have hi0 : ¬ (i : Int) < 0 := by omega
      have hig : ¬ (n : Int) ≤ (i : Int) := by omega
      by_cases hpm : p = m
      ·subst hpm
       rw [if_pos (by simp)] at hone
       replace hone := Lib.hid hone
       replace OK := Lib.hid OK
       replace HB := Lib.hid HB
       have hz := HB.out.size
       have BS : Blk _ wr.heap.size 3 (List.flatMap intC [i]).toArray := Blk.new wr 3 #[.i (i : Int)]
       have HS1 := Lib.hid (SlG.lit intC_length (by decide) [i] (n := 1) rfl BS BS.lt)
       have OK1 := Lib.hid (OwnG.alloc OK.out (.cells #[.i (i : Int)] 3))
       have hz1 : Hid (w7.heap.size ≤ (wr.alloc (.cells #[.i (i : Int)] 3)).heap.size) := Lib.hid (Nat.le_trans hz (by simp))
       have hs1 : (rfOne o p i).length + 1 ≤ 1000000 := by omega
       clear BS
       go_wp2_with (refine wpList_appK rfl (.tmp 92) (.tmp 94) rfl w7.heap.size (.slice Ak nk ck) (rfOne o p i) rfl OK1.out _ ⟨wr.heap.size, 0, none⟩ 1 1 [i] rfl HS1.out hs1 hz1.out ?_; intro v8 w8 OK8 hg8 hat8; replace OK8 := Lib.hid OK8; replace hg8 := Lib.hid hg8)
       exact ⟨⟨i + 1, hlti, by simp, by rw [hone.out]; exact OK8.out, (HB.out.alloc hz (.cells #[.i (i : Int)] 3)).grown hg8.out hz1.out (fun k hk => (OK.out.lt k hk).1)⟩, by simp [intOf]; omega⟩
      ·have hpm' : ¬ (p : Int) = (m : Int) := by omega
       rw [if_neg (by simpa using hpm)] at hone
       replace hone := Lib.hid hone
       replace OK := Lib.hid OK
       replace HB := Lib.hid HB
       clear hpm
       go_wp2_with fail
       exact ⟨⟨i + 1, hlti, by simp, by rw [hone.out]; exact OK.out, HB.out⟩, by simp [intOf]; omega⟩
     have hin : i = n := by omega
     subst hin
     have HG8 := HG.out.call HB
     have hz := HB.size
     have hz7 := HG.out.lab.1.size
     have hlh := HG.out.two.length
     have hlo := rfOut_len i o m
     by_cases hpos : 0 < (rfOne o m i).length
     ·have hpos' : (0 : Int) < (nk : Int) := by omega
      have hmore := fun v' W' (hw : OwnH W' w.heap.size v' (hds ++ [(Ak, nk, ck)])) (hg : (wr.alloc (.cells #[.slice Ak nk ck] 26)).grownBy W' (Value.slice Ag ng cg).ownBlock) => HG8.more OK hz7 hpos hw hg
      replace hmore := Lib.hid hmore
      replace OK := Lib.hid OK
      replace HB := Lib.hid HB
      replace HG8 := Lib.hid HG8
      replace hpos := Lib.hid hpos
      replace HG := Lib.hid HG
      have hzw : w.heap.size ≤ wr.heap.size := by omega
      clear hnk
      have BS : Blk _ wr.heap.size 26 (List.flatMap hdC [(Ak, nk, ck)]).toArray := Blk.new wr 26 #[.slice Ak nk ck]
      have HS1 := Lib.hid (SlG.lit hdC_length (by decide) [(Ak, nk, ck)] (n := 1) rfl BS BS.lt)
      have OH1 := Lib.hid (OwnG.alloc HG8.out.own (.cells #[.slice Ak nk ck] 26))
      have hz1 : Hid (w.heap.size ≤ (wr.alloc (.cells #[.slice Ak nk ck] 26)).heap.size) := Lib.hid (Nat.le_trans hzw (by simp))
      have hs1 : hds.length + 1 ≤ 1000000 := by omega
      clear BS
      go_wp2_with (refine wpList_appH rfl (.tmp 99) (.tmp 101) rfl w.heap.size (.slice Ag ng cg) hds rfl OH1.out _ ⟨wr.heap.size, 0, none⟩ 1 1 [(Ak, nk, ck)] rfl HS1.out hs1 hz1.out ?_; intro v9 w9 OH9 hg9 hat9; have HG9 := Lib.hid (hmore.out v9 w9 OH9 hg9); clear OH9 hg9 hat9)
      exact ⟨⟨m + 1, hltm, by simp, _, HG9.out⟩, by simp [intOf]; omega⟩
     ·have hpos' : ¬ (0 : Int) < (nk : Int) := by omega
      have hG9 : Hid (RgG w wr o i (m + 1) (.slice Ag ng cg) hds) := ⟨HG8.own, by rw [rfOut_succ, if_neg hpos]; exact HG8.two, HG8.lab⟩
      replace HG := Lib.hid HG
      clear hnk HG8 OK HB hpos
      go_wp2_with fail
      exact ⟨⟨m + 1, hltm, by simp, _, hG9.out⟩, by simp [intOf]; omega⟩
end Go.Proofs.YteabdeohhmbclaaGreat.Wk
