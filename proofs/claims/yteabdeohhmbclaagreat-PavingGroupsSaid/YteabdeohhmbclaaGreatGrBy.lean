import Derived.Test.YteabdeohhmbclaaGreatPvXy
import Derived.Test.YteabdeohhmbclaaGreatPvCy
import Derived.Test.YteabdeohhmbclaaGreatGrAy
import Derived.Test.YteabdeohhmbclaaGreatPureAy
import Derived.Laws.EntriesVeiled
namespace Go.Proofs.YteabdeohhmbclaaGreat.Wk
open Go.RowKit Go.Proofs.Pl Go.Proofs.YteabdeohhmbclaaGreatW.PrintLast
set_option linter.unusedSimpArgs false
set_option linter.unusedVariables false
def intC (x : Nat) : List Value := [.i (x : Int)]
theorem intC_length (x : Nat) : (intC x).length = 1 := rfl
theorem intC_one (x : Nat) : ∀ u ∈ intC x, u.oneCell' = true := fun u hu => by rw [List.mem_singleton.1 hu]; rfl
abbrev OwnK (w : World) (base : Nat) (v : Value) (xs : List Nat) : Prop := OwnG intC 1 3 w base v xs
theorem infoInt : (Tryz.prog.info? 3).map (fun i => (i.zero, i.size, i.bytes)) = some (some (.i 0), 1, 8) := by kernel_rfl
theorem run_appK {w : World} (base : Nat) (v : Value) (xs : List Nat) (hown : OwnK w base v xs) (ty : TypeId) (B : Nat) (A : Addr) (m c : Nat) (ys : List Nat) (hys : SlG intC 1 w B (some A) m ys) (hsm : xs.length + m ≤ 1000000) (hbase : base ≤ w.heap.size) :
  ∃ v' w', (Builtin.append_ #[26, 26] ty #[v, .slice (some A) m c]).run Tryz.prog w = .ok v' w' ∧ OwnK w' base v' (xs ++ ys) ∧ w.grownBy w' v.ownBlock ∧ (v'.ownBlock = v.ownBlock ∨ v'.ownBlock = some w.heap.size) := by
 obtain ⟨i0, hi, hz0, hz1, hz2⟩ := info_parts infoInt
 obtain ⟨v', w', hr, h2, h3, _, h5⟩ := run_append_own_at (P := Tryz.prog) w base 26 ty 3 i0 _ 1 8 Tryz.underlying26 hi hz0 hz1 hz2 rfl (by omega) v xs.length (xs.flatMap intC) hown A m c (ys.flatMap intC) (by rw [flatG_length intC_length, hys.1]) (SlG.flat intC_length (by decide) hys) (flatG_one intC_one ys) (by simp only [maxLen]; omega) (by omega) hbase
 refine ⟨v', w', hr, ?_, h3, h5⟩
 unfold OwnK OwnG
 rw [List.flatMap_append, List.length_append, hys.1]
 exact h2
theorem wpList_appK {ops : Array Oper} {o : Oper} {a : Act} {Q : Exit → Act → World → Prop} {w : World} {rest : List Oper} (hgd : o.guard = none) (s x : Operand) (ho : o.op = .call { callee := .builtin .append, args := #[s, x], argTypes := #[26, 26] }) (base : Nat) (v : Value) (xs : List Nat) (hs : a.eval s = v) (hown : OwnK w base v xs) (B : Nat) (A : Addr) (m c : Nat) (ys : List Nat) (hx : a.eval x = .slice (some A) m c) (hys : SlG intC 1 w B (some A) m ys) (hsm : xs.length + m ≤ 1000000) (hbase : base ≤ w.heap.size)
  (h : ∀ v' w', OwnK w' base v' (xs ++ ys) → w.grownBy w' v.ownBlock → (v'.ownBlock = v.ownBlock ∨ v'.ownBlock = some w.heap.size) → wpList Tryz.prog ops Q rest (a.put o.dst v') w') : wpList Tryz.prog ops Q (o :: rest) a w :=
 wpList_plain hgd fun _ hK => by
  obtain ⟨v', w', hr, h6, h3, h5⟩ := run_appK base v xs hown o.type B A m c ys hys hsm hbase
  unfold Oper.wp execOp
  simp only [ho, resolve, invoke, builtin, Sem.run_bind, Sem.run_pure, Result.andThen_ok, List.map_toArray, List.map_cons, List.map_nil, hs, hx, hr]
  exact hK _ _ (h v' w' h6 h3 h5)
theorem Only.trans2 {S S' : Nat → Prop} {w w' w'' : World} (h : Only S w w') (k : Only S' w' w'') (hS : ∀ j, j < w.heap.size → S' j → S j) : Only S w w'' :=
 ⟨k.1.trans h.1, k.2.1.trans h.2.1, k.2.2.1.trans h.2.2.1, Nat.le_trans h.2.2.2.1 k.2.2.2.1, fun j hj hn => (k.2.2.2.2 j (Nat.lt_of_lt_of_le hj h.2.2.2.1) fun e => hn (hS j hj e)).trans (h.2.2.2.2 j hj hn)⟩
def tL (ls : List Cl) (i k : Nat) : Bool := match ls[i]?, ls[k]? with
 | some x, some y => touchI x y
 | _, _ => false
structure GrX where
 base : Nat
 bm : Nat
 bo : Nat
 bl : Nat
 bw : Nat
 M : Nat
 A : Option Addr
 n : Nat
 c : Nat
 ls : List Cl
def fnW (X : GrX) : Value := .func (.func 10) #[] #[.pointer (some ⟨X.bm, 0, none⟩), .pointer (some ⟨X.bo, 0, none⟩), .pointer (some ⟨X.bl, 0, none⟩), .pointer (some ⟨X.bw, 0, none⟩)]
structure GrI (w : World) (X : GrX) (vo : Value) (s : List Bool × List Nat) : Prop where
 fm : Blk w X.bm 44 #[.slice (some ⟨X.M, 0, none⟩) X.n X.n]
 fM : Blk w X.M 4 (s.1.map Value.bool).toArray
 fo : Blk w X.bo 26 #[vo]
 fO : OwnK w X.base vo s.2
 fl : Blk w X.bl 22 #[.slice X.A X.n X.c]
 fw : Blk w X.bw 45 #[fnW X]
 fL : SlC w X.base X.A X.n X.ls
 fb : X.base ≤ w.heap.size ∧ X.base ≤ X.M ∧ X.base ≤ X.bo
theorem GrI.call {w w' : World} {X : GrX} {vo : Value} {s : List Bool × List Nat} (h : GrI w X vo s) (hb : Below w.heap.size w w') : GrI w' X vo s :=
 ⟨h.fm.call hb, h.fM.call hb, h.fo.call hb, h.fO.call hb, h.fl.call hb, h.fw.call hb, h.fL.below (hb.mono h.fb.1), Nat.le_trans h.fb.1 hb.size, h.fb.2⟩
theorem GrI.drew {w : World} {X : GrX} {vo : Value} {s : List Bool × List Nat} (h : GrI w X vo s) : GrI w.drew X vo s :=
 ⟨h.fm.drew, h.fM.drew, h.fo.drew, h.fO.drew, h.fl.drew, h.fw.drew, h.fL.keep (fun _ _ _ => rfl), h.fb⟩
theorem put1 {w : World} {g : Nat} {t : TypeId} {cs : Array Value} (h : Blk w g t cs) (i : Nat) (v : Value) : ∃ W, w.setCell ⟨g, i, none⟩ v = W ∧ Blk W g t (cs.setIfInBounds i v) ∧ Put w W g := ⟨_, rfl, h.set_ i v, Put.cell w g i v⟩
def GrS (X : GrX) (vo : Value) (k : Nat) : Prop := k = X.M ∨ k = X.bo ∨ vo.ownBlock = some k
def Nxt (w : World) (vo vo' : Value) : Prop := vo'.ownBlock = vo.ownBlock ∨ ∀ k, vo'.ownBlock = some k → w.heap.size ≤ k
theorem Nxt.trans {w w' : World} {a b c : Value} (h : Nxt w a b) (k : Nxt w' b c) (hz : w.heap.size ≤ w'.heap.size) : Nxt w a c := by
 rcases k with k | k
 ·unfold Nxt; rw [k]; exact h
 ·exact .inr fun j hj => Nat.le_trans hz (k j hj)
theorem GrS.back {w : World} {X : GrX} {a b : Value} (h : Nxt w a b) : ∀ j, j < w.heap.size → GrS X b j → GrS X a j := by
 rintro j hj (e | e | e)
 ·exact .inl e
 ·exact .inr (.inl e)
 ·rcases h with h | h
  ·rw [h] at e; exact .inr (.inr e)
  ·exact absurd (h j e) (by omega)
def GrR (w0 : World) (X : GrX) (vo : Value) (f i : Nat) (s : List Bool × List Nat) (v : Value) (wr : World) : Prop := ∃ k : Nat, k ≤ X.n ∧ v = .i k ∧ ∃ v', GrI wr X v' (dfsK (tL X.ls) X.n f i s k) ∧ Only (GrS X vo) w0 wr ∧ Nxt w0 vo v'
def WalkSpec (X : GrX) (f : Nat) : Prop := ∀ (i : Nat) (s : List Bool × List Nat) (vo : Value) (w : World), GrI w X vo s → s.1.length = X.n → i < X.n → ¬ met s.1 i → cntF s.1 ≤ f → s.2.length + cntF s.1 ≤ 1000 →
 Calls Tryz.prog 10 #[.i (i : Int), .pointer (some ⟨X.bm, 0, none⟩), .pointer (some ⟨X.bo, 0, none⟩), .pointer (some ⟨X.bl, 0, none⟩), .pointer (some ⟨X.bw, 0, none⟩)] w fun e w' => (∃ u, e = .returned u) ∧ ∃ vo', GrI w' X vo' (dfs (tL X.ls) X.n f i s) ∧ Only (GrS X vo) w w' ∧ Nxt w vo vo'
theorem set_map (l : List Bool) (i : Nat) : (l.map Value.bool).toArray.setIfInBounds i (.b true) = ((l.set i true).map Value.bool).toArray := by
 rw [List.setIfInBounds_toArray, List.map_set]
theorem map_get {l : List Bool} {i : Nat} (hi : i < l.length) : (l.map Value.bool).toArray[i]? = some (.b (l.getD i false)) := by
 rw [List.getElem?_toArray, List.getElem?_map, List.getD_eq_getElem?_getD, List.getElem?_eq_getElem hi]
 rfl
set_option maxRecDepth 100000 in
set_option maxHeartbeats 8000000 in
theorem walk_calls (X : GrX) (hn : X.n ≤ 1000) (f : Nat) : WalkSpec X f := by
 induction f with
 | zero => intro i s vo w I hl hi hm hc; have := cntF_set s.1 i (by omega) hm; omega
 | succ f ih =>
  intro i s vo w I hl hi hm hc hlen
  have hinv := dfsK_inv (tL X.ls) X.n f i s hl hi hm hc
  have IH := Lib.hid (fun i s vo w h1 h2 h3 h4 h5 h6 => ih i s vo w h1 h2 h3 h4 h5 h6)
  clear ih
  have ha0 : s.2.length ≤ 1000 := by omega
  obtain ⟨s1, s2⟩ := s
  dsimp only at hl hm hc hlen ha0
  have m0 : w.cell? ⟨X.bm, 0, none⟩ = some (.slice (some ⟨X.M, 0, none⟩) X.n X.n) := I.fm.cell 0
  have M0 : w.cell? ⟨X.M, i, none⟩ = some (.b false) := (I.fM.cell i).trans ((map_get (l := s1) (by omega)).trans (by rw [not_met hm]))
  have M1 : w.frozen? ⟨X.M, i, none⟩ = false := I.fM.frozen i
  obtain ⟨A1, cp, rfl⟩ := I.fO.form
  obtain ⟨W1, hW1, BM1, P1⟩ := put1 I.fM i (.b true)
  rw [set_map] at BM1
  have oM : X.bo ≠ X.M := blk_ne I.fo I.fM (by decide)
  have lM : X.bl ≠ X.M := blk_ne I.fl I.fM (by decide)
  have o1 := Lib.hid (P1.blk I.fo oM)
  have o0 : W1.cell? ⟨X.bo, 0, none⟩ = some (.slice A1 s2.length cp) := o1.out.cell 0
  have hz1 : W1.heap.size = w.heap.size := P1.size
  have O1 := (I.fO.same (w' := W1) (fun g hg => P1.2.2.2.2 g (by obtain ⟨cur, hcur⟩ := I.fO.cells hg; exact blk_ne hcur I.fM (by decide)))).alloc (.cells #[.i (i : Int)] 3)
  have S1 : SlG intC 1 (W1.alloc (.cells #[.i (i : Int)] 3)) (W1.alloc (.cells #[.i (i : Int)] 3)).heap.size (some ⟨W1.heap.size, 0, none⟩) 1 [i] := SlG.lit intC_length (by decide) [i] rfl (Blk.new W1 3 #[.i (i : Int)]) (Blk.new W1 3 #[.i (i : Int)]).lt
  have hb1 : X.base ≤ (W1.alloc (.cells #[.i (i : Int)] 3)).heap.size := by have := I.fb.1; simp; omega
  have I0 := Lib.hid I
  replace BM1 := Lib.hid BM1
  replace P1 := Lib.hid P1
  replace O1 := Lib.hid O1
  replace hz1 := Lib.hid hz1
  replace oM := Lib.hid oM
  replace lM := Lib.hid lM
  generalize hls : s2.length = n2 at o0
  replace hls := Lib.hid hls
  clear I
  go_enter Tryz.func10, Tryz.ntmps10
  go_wp2_with (refine wpList_appK rfl (.tmp 10) (.tmp 12) rfl X.base (.slice A1 n2 cp) s2 rfl (by have h := O1.out; rw [hls.out] at h; exact h) _ ⟨W1.heap.size, 0, none⟩ 1 1 [i] rfl S1 (by omega) hb1 ?_; intro v3 W3 O3 hg3 hat3; obtain ⟨A3, n3, cq, rfl⟩ : ∃ A n c, v3 = .slice A n c := (by obtain ⟨A, c, e⟩ := O3.form; exact ⟨A, _, c, e⟩); have keep : ∀ g t cs, Blk W1 g t cs → t ≠ 3 → Blk W3 g t cs := (fun g t cs hb ht => (hb.alloc (.cells #[.i (i : Int)] 3)).grown hg3 (fun e => by obtain ⟨cur, hcur⟩ := (show OwnK _ X.base (.slice A1 n2 cp) s2 from (by have h := O1.out; rw [hls.out] at h; exact h)).cells e.symm; exact blk_ne (hb.alloc (.cells #[.i (i : Int)] 3)) hcur ht rfl)); have BO3 := keep _ _ _ o1.out (by decide); obtain ⟨W4, hW4, BO4, P4⟩ := put1 BO3 0 (.slice A3 n3 cq); have o3 : W3.cell? ⟨X.bo, 0, none⟩ = some (.slice A1 s2.length cp) := BO3.cell 0; have f3 : W3.frozen? ⟨X.bo, 0, none⟩ = false := BO3.frozen 0; have BL4 := P4.blk (keep _ _ _ (P1.out.blk I0.out.fl lM.out) (by decide)) (blk_ne I0.out.fl I0.out.fo (by decide)); have l4 : W4.cell? ⟨X.bl, 0, none⟩ = some (.slice X.A X.n X.c) := BL4.cell 0; replace O3 := Lib.hid O3; replace hg3 := Lib.hid hg3; replace hat3 := Lib.hid hat3; replace BO4 := Lib.hid BO4; replace P4 := Lib.hid P4; replace BO3 := Lib.hid BO3; replace keep := Lib.hid keep)
  have N4 : Only (GrS X (.slice A1 n2 cp)) w W4 := (((Only.of_put (S := GrS X (.slice A1 n2 cp)) P1.out (.inl rfl)).trans (Only.of_below (bl_alloc (Below.refl _ _) (.cells #[.i (i : Int)] 3)))).trans (Only.of_grown (S := GrS X (.slice A1 n2 cp)) hg3.out (fun k hk => .inr (.inr hk)))).trans (Only.of_put (S := GrS X (.slice A1 n2 cp)) P4.out (.inr (.inl rfl)))
  have B4 : Below X.base w W4 := N4.below I0.out.fb.1 (by
   rintro k (rfl | rfl | hk)
   ·exact I0.out.fb.2.1
   ·exact I0.out.fb.2.2
   ·have h := I0.out.fO
    rw [hls.out] at h
    exact (h.lt k hk).1)
  have X4 : Nxt w (.slice A1 n2 cp) (.slice A3 n3 cq) := by
   rcases hat3.out with h | h
   ·exact .inl h
   ·refine .inr fun k hk => ?_
    rw [h] at hk
    cases hk
    have := hz1.out
    simp; omega
  have I4 : GrI W4 X (.slice A3 n3 cq) (dfsK (tL X.ls) X.n f i (s1, s2) 0) := by
   rw [dfsK_zero]
   have I := I0.out
   have mM : X.bm ≠ X.M := blk_ne I.fm I.fM (by decide)
   have wM : X.bw ≠ X.M := blk_ne I.fw I.fM (by decide)
   refine ⟨P4.out.blk (keep.out _ _ _ (P1.out.blk I.fm mM) (by decide)) (blk_ne I.fm I.fo (by decide)), P4.out.blk (keep.out _ _ _ BM1.out (by decide)) (Ne.symm oM.out), BO4.out, O3.out.same fun g hg => P4.out.2.2.2.2 g ?_, BL4, P4.out.blk (keep.out _ _ _ (P1.out.blk I.fw wM) (by decide)) (blk_ne I.fw I.fo (by decide)), I.fL.below B4, Nat.le_trans I.fb.1 N4.2.2.2.1, I.fb.2⟩
   obtain ⟨cur, hcur⟩ := O3.out.cells hg
   exact blk_ne hcur BO3.out (by decide)
  have hR : GrR w X (.slice A1 n2 cp) f i (s1, s2) (.i 0) W4 := ⟨0, Nat.zero_le _, rfl, _, I4, N4, X4⟩
  clear I4 X4 B4 N4 BL4 keep P4 BO4 BO3 hat3 hg3 O3 hW4 o3 f3 l4 hW1 o0 o1 O1 S1 hb1 BM1 P1 m0 M0 M1
  go_loopw [6, 16] (fun _ v wr => GrR w X (.slice A1 n2 cp) f i (s1, s2) v wr) (fun _ v _ => X.n - (intOf v).toNat)
  case atStart => exact hR
  case round =>
   obtain ⟨k, hk, rfl, v', I', N', X'⟩ := hrel
   by_cases hlt : k < X.n
   rotate_left
   ·have hkn : k = X.n := by omega
    replace I' := Lib.hid I'
    replace N' := Lib.hid N'
    replace X' := Lib.hid X'
    replace hkn := Lib.hid hkn
    go_wp2_with fail
    go_end0
    refine ⟨⟨_, rfl⟩, v', ?_, N'.out, X'.out⟩
    have h := I'.out
    rw [hkn.out] at h
    exact h
   obtain ⟨bb, off, x, hA, hbb, hx, hcx⟩ := I'.fL.at_ hi
   obtain ⟨bb', off', y, hA', _, hy, hcy⟩ := I'.fL.at_ hlt
   obtain ⟨rfl, rfl⟩ : bb = bb' ∧ off = off' := by rw [hA] at hA'; injection hA' with h; injection h with h1 h2; exact ⟨h1, h2⟩
   have ht : tL X.ls i k = touchI x y := by unfold tL; rw [hx, hy]
   obtain ⟨⟨⟨a0, ⟨a1, a2, a3, a4⟩, ⟨a5, a6, a7, a8⟩⟩, ⟨b0, ⟨b1, b2, b3, b4⟩, ⟨b5, b6, b7, b8⟩⟩⟩, ka⟩ := x
   obtain ⟨⟨⟨c0, ⟨c1, c2, c3, c4⟩, ⟨c5, c6, c7, c8⟩⟩, ⟨d0, ⟨d1, d2, d3, d4⟩, ⟨d5, d6, d7, d8⟩⟩⟩, kc⟩ := y
   have HT := Lib.hid (fun W => touch_calls a0 a1 a2 a3 a4 a5 a6 a7 a8 b0 b1 b2 b3 b4 b5 b6 b7 b8 ka c0 c1 c2 c3 c4 c5 c6 c7 c8 d0 d1 d2 d3 d4 d5 d6 d7 d8 kc W)
   have hsucc := dfsK_succ (tL X.ls) X.n f i (s1, s2) k
   have hi1 := hinv k hk
   generalize dfsK (tL X.ls) X.n f i (s1, s2) k = sk at I' hsucc hi1
   have c1_ : wr.cell? ⟨X.bm, 0, none⟩ = some (.slice (some ⟨X.M, 0, none⟩) X.n X.n) := I'.fm.cell 0
   have c2_ : wr.cell? ⟨X.M, k, none⟩ = some (.b (sk.1.getD k false)) := (I'.fM.cell k).trans (map_get (by omega))
   have c3_ : wr.cell? ⟨X.bl, 0, none⟩ = some (.slice (some ⟨bb, off, none⟩) X.n X.c) := by rw [← hA]; exact I'.fl.cell 0
   have r1_ : wr.rangeAt bb (off + i * 19) [.b a0, .i a1, .b a2, .u a3, .i a4, .i a5, .b a6, .u a7, .i a8, .b b0, .i b1, .b b2, .u b3, .i b4, .i b5, .b b6, .u b7, .i b8, .i ka] := fun j u hu => hcx j u hu
   have r2_ : wr.rangeAt bb (off + k * 19) [.b c0, .i c1, .b c2, .u c3, .i c4, .i c5, .b c6, .u c7, .i c8, .b d0, .i d1, .b d2, .u d3, .i d4, .i d5, .b d6, .u d7, .i d8, .i kc] := fun j u hu => hcy j u hu
   rw [ht] at hsucc
   have hnm : sk.1.getD k false = false → ¬ met sk.1 k := fun h => by unfold met; rw [h]; simp
   have hcnt := hi1.2.1
   have hsum : sk.2.length + cntF sk.1 ≤ 1000 := by have := hi1.2.2; omega
   have hskl := hi1.1
   clear hcx hcy hx hy ht hi1 hinv hA hA'
   generalize hmk : sk.1.getD k false = mk at hsucc c2_ hnm
   generalize touchI ⟨⟨⟨a0, ⟨a1, a2, a3, a4⟩, ⟨a5, a6, a7, a8⟩⟩, ⟨b0, ⟨b1, b2, b3, b4⟩, ⟨b5, b6, b7, b8⟩⟩⟩, ka⟩ ⟨⟨⟨c0, ⟨c1, c2, c3, c4⟩, ⟨c5, c6, c7, c8⟩⟩, ⟨d0, ⟨d1, d2, d3, d4⟩, ⟨d5, d6, d7, d8⟩⟩⟩, kc⟩ = tb at HT hsucc
   have I5 := Lib.hid I'
   replace hnm := Lib.hid hnm
   replace hsucc := Lib.hid hsucc
   replace N' := Lib.hid N'
   replace X' := Lib.hid X'
   clear I' hmk
   go_wp2_with fail
   replace c1_ : wr.drew.cell? ⟨X.bm, 0, none⟩ = some (.slice (some ⟨X.M, 0, none⟩) X.n X.n) := c1_
   replace c2_ : wr.drew.cell? ⟨X.M, k, none⟩ = some (.b mk) := c2_
   replace c3_ : wr.drew.cell? ⟨X.bl, 0, none⟩ = some (.slice (some ⟨bb, off, none⟩) X.n X.c) := c3_
   replace r1_ : wr.drew.rangeAt bb (off + i * 19) [.b a0, .i a1, .b a2, .u a3, .i a4, .i a5, .b a6, .u a7, .i a8, .b b0, .i b1, .b b2, .u b3, .i b4, .i b5, .b b6, .u b7, .i b8, .i ka] := r1_
   replace r2_ : wr.drew.rangeAt bb (off + k * 19) [.b c0, .i c1, .b c2, .u c3, .i c4, .i c5, .b c6, .u c7, .i c8, .b d0, .i d1, .b d2, .u d3, .i d4, .i d5, .b d6, .u d7, .i d8, .i kc] := r2_
   replace I5 := Lib.hid I5.out.drew
   replace N' : Only (GrS X (.slice A1 n2 cp)) w wr.drew := N'.out
   cases mk
   rotate_left
   ·skip
    refine start_ (n := 16) (S := fun w' => w'.cell? ⟨X.bm, 0, none⟩ = some (.slice (some ⟨X.M, 0, none⟩) X.n X.n) ∧ w'.cell? ⟨X.M, k, none⟩ = some (.b true) ∧ w'.cell? ⟨X.bl, 0, none⟩ = some (.slice (some ⟨bb, off, none⟩) X.n X.c) ∧ w'.rangeAt bb (off + i * 19) [.b a0, .i a1, .b a2, .u a3, .i a4, .i a5, .b a6, .u a7, .i a8, .b b0, .i b1, .b b2, .u b3, .i b4, .i b5, .b b6, .u b7, .i b8, .i ka] ∧ w'.rangeAt bb (off + k * 19) [.b c0, .i c1, .b c2, .u c3, .i c4, .i c5, .b c6, .u c7, .i c8, .b d0, .i d1, .b d2, .u d3, .i d4, .i d5, .b d6, .u d7, .i d8, .i kc]) (ds := [14]) (bq 16 0) (by kernel_rfl) rfl rfl ⟨c1_, c2_, c3_, r1_, r2_⟩ (fun hHeld => ?_)
    generalize hWW : World.drew _ = w3 at I5 N' c1_ c2_ c3_ r1_ r2_ hHeld ⊢
    replace hWW := Lib.hid hWW
    refine tk 0 19 (bq 16 1) ?_ ?_ ?_ ?_ hHeld ?_
    rotate_left 2
    ·rintro w' ⟨s0_, s1_, s2_, s3_, s4_⟩
     go_simp
     with_reducible rfl
    ·simp only [Act.put, pA, pB, pC]
     rfl
    refine pu 1 20 (bq 16 3) ?_ ?_ (fun _ => ?_) ?_ ?_
    rotate_left 2
    ·go_simp
     with_reducible rfl
    ·simp only [Act.put, pA, pB, pC]
     rfl
    refine pu 2 21 (bq 16 7) ?_ ?_ (fun _ => ?_) ?_ ?_
    rotate_left 2
    ·go_simp
     with_reducible rfl
    ·simp only [Act.put, pA, pB, pC]
     rfl
    refine tk 3 22 (bq 16 15) ?_ ?_ ?_ ?_ hHeld ?_
    rotate_left 2
    ·rintro w' ⟨s0_, s1_, s2_, s3_, s4_⟩
     go_simp
     with_reducible rfl
    ·simp only [Act.put, pA, pB, pC]
     rfl
    refine pu 4 23 (bq 16 31) ?_ ?_ (fun _ => ?_) ?_ ?_
    rotate_left 2
    ·go_simp
     with_reducible rfl
    ·simp only [Act.put, pA, pB, pC]
     rfl
    refine pu 5 24 (bq 16 63) ?_ ?_ (fun _ => ?_) ?_ ?_
    rotate_left 2
    ·go_simp
     with_reducible rfl
    ·simp only [Act.put, pA, pB, pC]
     rfl
    refine po 6 25 (bq 16 127) ?_ ?_ ?_
    rotate_left
    ·simp only [Act.put, pA, pB, pC]
     rfl
    refine po 7 26 (bq 16 255) ?_ ?_ ?_
    rotate_left
    ·simp only [Act.put, pA, pB, pC]
     rfl
    refine po 8 27 (bq 16 511) ?_ ?_ ?_
    rotate_left
    ·simp only [Act.put, pA, pB, pC]
     rfl
    refine po 9 28 (bq 16 1023) ?_ ?_ ?_
    rotate_left
    ·simp only [Act.put, pA, pB, pC]
     rfl
    refine po 10 29 (bq 16 2047) ?_ ?_ ?_
    rotate_left
    ·simp only [Act.put, pA, pB, pC]
     rfl
    refine po 11 30 (bq 16 4095) ?_ ?_ ?_
    rotate_left
    ·simp only [Act.put, pA, pB, pC]
     rfl
    refine po 12 31 (bq 16 8191) ?_ ?_ ?_
    rotate_left
    ·simp only [Act.put, pA, pB, pC]
     rfl
    refine po 13 32 (bq 16 16383) ?_ ?_ ?_
    rotate_left
    ·simp only [Act.put, pA, pB, pC]
     rfl
    refine po 14 33 (bq 16 32767) ?_ ?_ ?_
    rotate_left
    ·simp only [Act.put, pA, pB, pC]
     rfl
    refine pu 15 34 (bq 16 65535) ?_ ?_ (fun _ => ?_) ?_ ?_
    rotate_left 2
    ·go_simp
     with_reducible rfl
    ·simp only [Act.put, pA, pB, pC]
     rfl
    refine done_ (by kernel_rfl) ?_
    clear hHeld
    go_wp2_with fail
    go_roundw
    case rel => exact ⟨k + 1, hlt, by go_num, v', by rw [hsucc.out, if_neg (by simp)]; exact I5.out, N', X'.out⟩
    case measure => simp [intOf]; omega
   cases tb
   ·skip
    refine start_ (n := 16) (S := fun w' => w'.cell? ⟨X.bm, 0, none⟩ = some (.slice (some ⟨X.M, 0, none⟩) X.n X.n) ∧ w'.cell? ⟨X.M, k, none⟩ = some (.b false) ∧ w'.cell? ⟨X.bl, 0, none⟩ = some (.slice (some ⟨bb, off, none⟩) X.n X.c) ∧ w'.rangeAt bb (off + i * 19) [.b a0, .i a1, .b a2, .u a3, .i a4, .i a5, .b a6, .u a7, .i a8, .b b0, .i b1, .b b2, .u b3, .i b4, .i b5, .b b6, .u b7, .i b8, .i ka] ∧ w'.rangeAt bb (off + k * 19) [.b c0, .i c1, .b c2, .u c3, .i c4, .i c5, .b c6, .u c7, .i c8, .b d0, .i d1, .b d2, .u d3, .i d4, .i d5, .b d6, .u d7, .i d8, .i kc]) (ds := [14]) (bq 16 0) (by kernel_rfl) rfl rfl ⟨c1_, c2_, c3_, r1_, r2_⟩ (fun hHeld => ?_)
    generalize hWW : World.drew _ = w3 at I5 N' c1_ c2_ c3_ r1_ r2_ hHeld ⊢
    replace hWW := Lib.hid hWW
    refine tk 0 19 (bq 16 1) ?_ ?_ ?_ ?_ hHeld ?_
    rotate_left 2
    ·rintro w' ⟨s0_, s1_, s2_, s3_, s4_⟩
     go_simp
     with_reducible rfl
    ·simp only [Act.put, pA, pB, pC]
     rfl
    refine pu 1 20 (bq 16 3) ?_ ?_ (fun _ => ?_) ?_ ?_
    rotate_left 2
    ·go_simp
     with_reducible rfl
    ·simp only [Act.put, pA, pB, pC]
     rfl
    refine pu 2 21 (bq 16 7) ?_ ?_ (fun _ => ?_) ?_ ?_
    rotate_left 2
    ·go_simp
     with_reducible rfl
    ·simp only [Act.put, pA, pB, pC]
     rfl
    refine tk 3 22 (bq 16 15) ?_ ?_ ?_ ?_ hHeld ?_
    rotate_left 2
    ·rintro w' ⟨s0_, s1_, s2_, s3_, s4_⟩
     go_simp
     with_reducible rfl
    ·simp only [Act.put, pA, pB, pC]
     rfl
    refine pu 4 23 (bq 16 31) ?_ ?_ (fun _ => ?_) ?_ ?_
    rotate_left 2
    ·go_simp
     with_reducible rfl
    ·simp only [Act.put, pA, pB, pC]
     rfl
    refine pu 5 24 (bq 16 63) ?_ ?_ (fun _ => ?_) ?_ ?_
    rotate_left 2
    ·go_simp
     with_reducible rfl
    ·simp only [Act.put, pA, pB, pC]
     rfl
    refine tk 6 25 (bq 16 127) ?_ ?_ ?_ ?_ hHeld ?_
    rotate_left 2
    ·rintro w' ⟨s0_, s1_, s2_, s3_, s4_⟩
     go_simp
     with_reducible rfl
    ·simp only [Act.put, pA, pB, pC]
     rfl
    refine pu 7 26 (bq 16 255) ?_ ?_ (fun _ => ?_) ?_ ?_
    rotate_left 2
    ·go_simp
     with_reducible rfl
    ·simp only [Act.put, pA, pB, pC]
     rfl
    refine pu 8 27 (bq 16 511) ?_ ?_ (fun _ => ?_) ?_ ?_
    rotate_left 2
    ·go_simp
     with_reducible rfl
    ·simp only [Act.put, pA, pB, pC]
     rfl
    refine ta 9 28 (bq 16 1023) rfl (.agg #[.b a0, .i a1, .b a2, .u a3, .i a4, .i a5, .b a6, .u a7, .i a8, .b b0, .i b1, .b b2, .u b3, .i b4, .i b5, .b b6, .u b7, .i b8, .i ka]) ?_ hHeld (yieldsIf_load_mid (by rfl) 43 (.tmp 27) rfl bb (off + i * 19) rfl [.b a0, .i a1, .b a2, .u a3, .i a4, .i a5, .b a6, .u a7, .i a8, .b b0, .i b1, .b b2, .u b3, .i b4, .i b5, .b b6, .u b7, .i b8, .i ka] _ (fun _ h => h.2.2.2.1) Tryz.underlying43 rfl (by kernel_rfl)) ?_ ?_
    rotate_left
    ·simp only [Act.put, pA, pB, pC]
     rfl
    refine tk 10 29 (bq 16 2047) ?_ ?_ ?_ ?_ hHeld ?_
    rotate_left 2
    ·rintro w' ⟨s0_, s1_, s2_, s3_, s4_⟩
     go_simp
     with_reducible rfl
    ·simp only [Act.put, pA, pB, pC]
     rfl
    refine pu 11 30 (bq 16 4095) ?_ ?_ (fun _ => ?_) ?_ ?_
    rotate_left 2
    ·go_simp
     with_reducible rfl
    ·simp only [Act.put, pA, pB, pC]
     rfl
    refine pu 12 31 (bq 16 8191) ?_ ?_ (fun _ => ?_) ?_ ?_
    rotate_left 2
    ·go_simp
     with_reducible rfl
    ·simp only [Act.put, pA, pB, pC]
     rfl
    refine ta 13 32 (bq 16 16383) rfl (.agg #[.b c0, .i c1, .b c2, .u c3, .i c4, .i c5, .b c6, .u c7, .i c8, .b d0, .i d1, .b d2, .u d3, .i d4, .i d5, .b d6, .u d7, .i d8, .i kc]) ?_ hHeld (yieldsIf_load_mid (by rfl) 43 (.tmp 31) rfl bb (off + k * 19) rfl [.b c0, .i c1, .b c2, .u c3, .i c4, .i c5, .b c6, .u c7, .i c8, .b d0, .i d1, .b d2, .u d3, .i d4, .i d5, .b d6, .u d7, .i d8, .i kc] _ (fun _ h => h.2.2.2.2) Tryz.underlying43 rfl (by kernel_rfl)) ?_ ?_
    rotate_left
    ·simp only [Act.put, pA, pB, pC]
     rfl
    refine last_ (i := 14) (N := some 33) (bq 16 32767) rfl rfl (by kernel_rfl) (by decide) (fun K hK => ?_)
    refine goes_ Tryz.func11 (by kernel_rfl) rfl #[.agg #[.b a0, .i a1, .b a2, .u a3, .i a4, .i a5, .b a6, .u a7, .i a8, .b b0, .i b1, .b b2, .u b3, .i b4, .i b5, .b b6, .u b7, .i b8, .i ka], .agg #[.b c0, .i c1, .b c2, .u c3, .i c4, .i c5, .b c6, .u c7, .i c8, .b d0, .i d1, .b d2, .u d3, .i d4, .i d5, .b d6, .u d7, .i d8, .i kc]] (by first | rfl | go_simp) rfl rfl (by simp only [List.map_toArray, List.map_cons, List.map_nil] <;> rfl) ?_
    with_reducible refine (HT.out _).mono ?_
    rintro e w5 ⟨rfl, hb⟩
    refine ⟨_, rfl, ?_⟩
    have I6 := I5.out.call hb
    have N6 := N'.trans (Only.of_below hb)
    have w0_ : w5.cell? ⟨X.bw, 0, none⟩ = some (.func (.func 10) #[] #[.pointer (some ⟨X.bm, 0, none⟩), .pointer (some ⟨X.bo, 0, none⟩), .pointer (some ⟨X.bl, 0, none⟩), .pointer (some ⟨X.bw, 0, none⟩)]) := I6.fw.cell 0
    replace I6 := Lib.hid I6
    replace N6 := Lib.hid N6
    clear hb c1_ c2_ c3_ r1_ r2_ N' I5
    refine hK.out _ _ ?_
    clear hK K
    refine norm_ (a' := ?_) ?_ ?_
    rotate_left
    ·show Act.put _ (some 33) _ = _
     simp only [Act.put, pA, pB, pC]
     rfl
    refine pu 15 34 (bq 16 65535) ?_ ?_ (fun _ => ?_) ?_ ?_
    rotate_left 2
    ·go_simp
     with_reducible rfl
    ·simp only [Act.put, pA, pB, pC]
     rfl
    refine done_ (by kernel_rfl) ?_
    clear hHeld
    go_wp2_with fail
    go_roundw
    case rel => exact ⟨k + 1, hlt, by go_num, v', by rw [hsucc.out, if_neg (by simp)]; exact I6.out, N6.out, X'.out⟩
    case measure => simp [intOf]; omega
   ·skip
    refine start_ (n := 16) (S := fun w' => w'.cell? ⟨X.bm, 0, none⟩ = some (.slice (some ⟨X.M, 0, none⟩) X.n X.n) ∧ w'.cell? ⟨X.M, k, none⟩ = some (.b false) ∧ w'.cell? ⟨X.bl, 0, none⟩ = some (.slice (some ⟨bb, off, none⟩) X.n X.c) ∧ w'.rangeAt bb (off + i * 19) [.b a0, .i a1, .b a2, .u a3, .i a4, .i a5, .b a6, .u a7, .i a8, .b b0, .i b1, .b b2, .u b3, .i b4, .i b5, .b b6, .u b7, .i b8, .i ka] ∧ w'.rangeAt bb (off + k * 19) [.b c0, .i c1, .b c2, .u c3, .i c4, .i c5, .b c6, .u c7, .i c8, .b d0, .i d1, .b d2, .u d3, .i d4, .i d5, .b d6, .u d7, .i d8, .i kc]) (ds := [14]) (bq 16 0) (by kernel_rfl) rfl rfl ⟨c1_, c2_, c3_, r1_, r2_⟩ (fun hHeld => ?_)
    generalize hWW : World.drew _ = w3 at I5 N' c1_ c2_ c3_ r1_ r2_ hHeld ⊢
    replace hWW := Lib.hid hWW
    refine tk 0 19 (bq 16 1) ?_ ?_ ?_ ?_ hHeld ?_
    rotate_left 2
    ·rintro w' ⟨s0_, s1_, s2_, s3_, s4_⟩
     go_simp
     with_reducible rfl
    ·simp only [Act.put, pA, pB, pC]
     rfl
    refine pu 1 20 (bq 16 3) ?_ ?_ (fun _ => ?_) ?_ ?_
    rotate_left 2
    ·go_simp
     with_reducible rfl
    ·simp only [Act.put, pA, pB, pC]
     rfl
    refine pu 2 21 (bq 16 7) ?_ ?_ (fun _ => ?_) ?_ ?_
    rotate_left 2
    ·go_simp
     with_reducible rfl
    ·simp only [Act.put, pA, pB, pC]
     rfl
    refine tk 3 22 (bq 16 15) ?_ ?_ ?_ ?_ hHeld ?_
    rotate_left 2
    ·rintro w' ⟨s0_, s1_, s2_, s3_, s4_⟩
     go_simp
     with_reducible rfl
    ·simp only [Act.put, pA, pB, pC]
     rfl
    refine pu 4 23 (bq 16 31) ?_ ?_ (fun _ => ?_) ?_ ?_
    rotate_left 2
    ·go_simp
     with_reducible rfl
    ·simp only [Act.put, pA, pB, pC]
     rfl
    refine pu 5 24 (bq 16 63) ?_ ?_ (fun _ => ?_) ?_ ?_
    rotate_left 2
    ·go_simp
     with_reducible rfl
    ·simp only [Act.put, pA, pB, pC]
     rfl
    refine tk 6 25 (bq 16 127) ?_ ?_ ?_ ?_ hHeld ?_
    rotate_left 2
    ·rintro w' ⟨s0_, s1_, s2_, s3_, s4_⟩
     go_simp
     with_reducible rfl
    ·simp only [Act.put, pA, pB, pC]
     rfl
    refine pu 7 26 (bq 16 255) ?_ ?_ (fun _ => ?_) ?_ ?_
    rotate_left 2
    ·go_simp
     with_reducible rfl
    ·simp only [Act.put, pA, pB, pC]
     rfl
    refine pu 8 27 (bq 16 511) ?_ ?_ (fun _ => ?_) ?_ ?_
    rotate_left 2
    ·go_simp
     with_reducible rfl
    ·simp only [Act.put, pA, pB, pC]
     rfl
    refine ta 9 28 (bq 16 1023) rfl (.agg #[.b a0, .i a1, .b a2, .u a3, .i a4, .i a5, .b a6, .u a7, .i a8, .b b0, .i b1, .b b2, .u b3, .i b4, .i b5, .b b6, .u b7, .i b8, .i ka]) ?_ hHeld (yieldsIf_load_mid (by rfl) 43 (.tmp 27) rfl bb (off + i * 19) rfl [.b a0, .i a1, .b a2, .u a3, .i a4, .i a5, .b a6, .u a7, .i a8, .b b0, .i b1, .b b2, .u b3, .i b4, .i b5, .b b6, .u b7, .i b8, .i ka] _ (fun _ h => h.2.2.2.1) Tryz.underlying43 rfl (by kernel_rfl)) ?_ ?_
    rotate_left
    ·simp only [Act.put, pA, pB, pC]
     rfl
    refine tk 10 29 (bq 16 2047) ?_ ?_ ?_ ?_ hHeld ?_
    rotate_left 2
    ·rintro w' ⟨s0_, s1_, s2_, s3_, s4_⟩
     go_simp
     with_reducible rfl
    ·simp only [Act.put, pA, pB, pC]
     rfl
    refine pu 11 30 (bq 16 4095) ?_ ?_ (fun _ => ?_) ?_ ?_
    rotate_left 2
    ·go_simp
     with_reducible rfl
    ·simp only [Act.put, pA, pB, pC]
     rfl
    refine pu 12 31 (bq 16 8191) ?_ ?_ (fun _ => ?_) ?_ ?_
    rotate_left 2
    ·go_simp
     with_reducible rfl
    ·simp only [Act.put, pA, pB, pC]
     rfl
    refine ta 13 32 (bq 16 16383) rfl (.agg #[.b c0, .i c1, .b c2, .u c3, .i c4, .i c5, .b c6, .u c7, .i c8, .b d0, .i d1, .b d2, .u d3, .i d4, .i d5, .b d6, .u d7, .i d8, .i kc]) ?_ hHeld (yieldsIf_load_mid (by rfl) 43 (.tmp 31) rfl bb (off + k * 19) rfl [.b c0, .i c1, .b c2, .u c3, .i c4, .i c5, .b c6, .u c7, .i c8, .b d0, .i d1, .b d2, .u d3, .i d4, .i d5, .b d6, .u d7, .i d8, .i kc] _ (fun _ h => h.2.2.2.2) Tryz.underlying43 rfl (by kernel_rfl)) ?_ ?_
    rotate_left
    ·simp only [Act.put, pA, pB, pC]
     rfl
    refine last_ (i := 14) (N := some 33) (bq 16 32767) rfl rfl (by kernel_rfl) (by decide) (fun K hK => ?_)
    refine goes_ Tryz.func11 (by kernel_rfl) rfl #[.agg #[.b a0, .i a1, .b a2, .u a3, .i a4, .i a5, .b a6, .u a7, .i a8, .b b0, .i b1, .b b2, .u b3, .i b4, .i b5, .b b6, .u b7, .i b8, .i ka], .agg #[.b c0, .i c1, .b c2, .u c3, .i c4, .i c5, .b c6, .u c7, .i c8, .b d0, .i d1, .b d2, .u d3, .i d4, .i d5, .b d6, .u d7, .i d8, .i kc]] (by first | rfl | go_simp) rfl rfl (by simp only [List.map_toArray, List.map_cons, List.map_nil] <;> rfl) ?_
    with_reducible refine (HT.out _).mono ?_
    rintro e w5 ⟨rfl, hb⟩
    refine ⟨_, rfl, ?_⟩
    have I6 := I5.out.call hb
    have N6 := N'.trans (Only.of_below hb)
    have w0_ : w5.cell? ⟨X.bw, 0, none⟩ = some (.func (.func 10) #[] #[.pointer (some ⟨X.bm, 0, none⟩), .pointer (some ⟨X.bo, 0, none⟩), .pointer (some ⟨X.bl, 0, none⟩), .pointer (some ⟨X.bw, 0, none⟩)]) := I6.fw.cell 0
    replace I6 := Lib.hid I6
    replace N6 := Lib.hid N6
    clear hb c1_ c2_ c3_ r1_ r2_ N' I5
    refine hK.out _ _ ?_
    clear hK K
    refine norm_ (a' := ?_) ?_ ?_
    rotate_left
    ·show Act.put _ (some 33) _ = _
     simp only [Act.put, pA, pB, pC]
     rfl
    refine pu 15 34 (bq 16 65535) ?_ ?_ (fun _ => ?_) ?_ ?_
    rotate_left 2
    ·go_simp
     with_reducible rfl
    ·simp only [Act.put, pA, pB, pC]
     rfl
    refine done_ (by kernel_rfl) ?_
    clear hHeld
    go_wp2_with (go_at_call 10; (with_reducible refine (IH.out k sk v' w5 I6.out hskl hlt (hnm.out rfl) hcnt hsum).mono ?_); rintro e w6 ⟨⟨u_, rfl⟩, v6, I7, N7, X7⟩)
    go_roundw
    case rel => exact ⟨k + 1, hlt, by go_num, v6, by rw [hsucc.out, if_pos (by simp)]; exact I7, N6.out.trans2 N7 (GrS.back X'.out), X'.out.trans X7 N6.out.2.2.2.1⟩
    case measure => simp [intOf]; omega
end Go.Proofs.YteabdeohhmbclaaGreat.Wk
