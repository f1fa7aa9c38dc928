import Derived.Test.YteabdeohhmbclaaAwXv
import Derived.Test.YteabdeohhmbclaaPureAv
namespace Go.Proofs.Yteabdeohhmbclaa.Wk
open Go.RowKit Go.Proofs.Pl Go.Proofs.YteabdeohhmbclaaW.PrintLast
set_option linter.unusedSimpArgs false
set_option linter.unusedVariables false
theorem wpList_makeZ {ops : Array Oper} {o : Oper} {a : Act} {Q : Exit → Act → World → Prop} {w : World} {rest : List Oper} (hgd : o.guard = none) (x y : Operand) (ho : o.op = .makeSlice 49 x y) (n : Nat) (hx : a.eval x = .i n) (hy : a.eval y = .i n) (hn : n ≤ 1000000)
  (h : ∀ W1, W1 = w.alloc (.cells ((List.replicate n (0 : Int)).map (Value.int .i64)).toArray 3) → wpList Try.prog ops Q rest (a.put o.dst (.slice (some ⟨w.heap.size, 0, none⟩) n n)) W1) : wpList Try.prog ops Q (o :: rest) a w :=
 wpList_plain hgd fun _ hK => by
  obtain ⟨i0, hi, hz0, hz1, hz2⟩ := info_parts infoInt
  have hr := run_make (P := Try.prog) w 49 3 i0 _ Try.underlying49 hi hz0 .i64 .i64 n n (by omega) (by omega) (by rw [hz2]; omega) (by omega)
  simp only [Int.toNat_natCast] at hr
  unfold Oper.wp execOp
  simp only [ho, hx, hy, Sem.run_bind, hr, Result.andThen_ok]
  exact hK _ _ (h _ (by rw [hz1, Nat.mul_one, show (Value.int .i64 0).cells = #[Value.int .i64 0] from rfl, infoIntM]))
theorem Own2.get {w : World} {base : Nat} : ∀ {hs : List Hd} {gs : List (List Nat)}, Own2 w base hs gs → ∀ {i : Nat} {g : List Nat}, gs[i]? = some g → ∃ h, hs[i]? = some h ∧ OwnK w base (Hd.val h) g
 | [], [], _, i, g, e => by simp at e
 | h :: hs, g0 :: gs, H, 0, g, e => ⟨h, rfl, by simp at e; subst e; exact H.1⟩
 | h :: hs, g0 :: gs, H, i + 1, g, e => Own2.get H.2 (by simpa using e)
 | [], _ :: _, H, _, _, _ => H.elim
 | _ :: _, [], H, _, _, _ => H.elim
theorem ints_get {o : List Int} {i : Nat} {x : Int} (h : o[i]? = some x) : (o.map (Value.int .i64)).toArray[i]? = some (.i x) := by
 rw [List.getElem?_toArray, List.getElem?_map, h]; rfl
theorem ints_set (o : List Int) (i : Nat) (x : Int) : (o.map (Value.int .i64)).toArray.setIfInBounds i (.i x) = ((o.set i x).map (Value.int .i64)).toArray := by
 rw [List.setIfInBounds_toArray, List.map_set]
theorem heads_at {w2 wr : World} {base : Nat} {v : Value} {hds : List Hd} {gs : List (List Nat)} (OH : OwnH w2 base v hds) (O2 : Own2 w2 base hds gs) (hb : Below w2.heap.size w2 wr) {A : Option Addr} {m c : Nat} (hv : v = .slice A m c) {i : Nat} {g : List Nat} (hi : gs[i]? = some g) :
  ∃ gb go Ai ci, A = some ⟨gb, go, none⟩ ∧ wr.cell? ⟨gb, go + i, none⟩ = some (.slice Ai g.length ci) ∧ (∀ (k x : Nat), g[k]? = some x → ∃ ib io, Ai = some ⟨ib, io, none⟩ ∧ wr.cell? ⟨ib, io + k, none⟩ = some (.i (x : Int))) := by
 obtain ⟨h, hh, OK⟩ := O2.get hi
 obtain ⟨A', c', e, hs⟩ := OwnG.sl hdC_length (by decide) OH
 rw [e] at hv
 injection hv with e1 e2 e3
 subst e1
 have hil : i < hds.length := (List.getElem?_eq_some_iff.1 hh).1
 obtain ⟨gb, go, x, hA, hlt, hx, hc⟩ := hs.at_ hil
 rw [hh] at hx
 cases hx
 obtain ⟨Ai, ci, ev, hsk⟩ := OwnG.sl intC_length (by decide) OK
 have hc0 := hc 0 (Hd.val h) rfl
 rw [ev, Nat.mul_one, Nat.add_zero] at hc0
 refine ⟨gb, go, Ai, ci, hA, (hb.cell (p := ⟨gb, go + i, none⟩) hlt).trans hc0, fun k y hy => ?_⟩
 obtain ⟨ib, io, z, hAi, hlt', hz, hcz⟩ := hsk.at_ (i := k) (List.getElem?_eq_some_iff.1 hy).1
 rw [hy] at hz
 cases hz
 have hcz0 := hcz 0 (.i (y : Int)) rfl
 rw [Nat.mul_one, Nat.add_zero] at hcz0
 exact ⟨ib, io, hAi, (hb.cell (p := ⟨ib, io + k, none⟩) hlt').trans hcz0⟩
theorem meet_symm {x y : Iv} (wx : WfIv x) (wy : WfIv y) : meetI [x, y] = meetI [y, x] := by
 refine eq_meet [x, y] (wf2 wx wy) (may_meet _) (meet_wf _ (wf2 wy wx)) fun k => ?_
 rw [mem_meet [y, x] (wf2 wy wx), all2, all2]
 constructor
 ·rintro ⟨h, a, b⟩; exact ⟨h, b, a⟩
 ·rintro ⟨h, a, b⟩; exact ⟨h, b, a⟩
theorem tL_symm (xs : List Cl) (wx : ∀ x ∈ xs, WfIv x.p.a ∧ WfIv x.p.b) (i k : Nat) : tL xs i k = tL xs k i := by
 unfold tL
 cases hi : xs[i]? with
 | none => cases xs[k]? <;> rfl
 | some x =>
  cases hk : xs[k]? with
  | none => rfl
  | some y =>
   have w1 := wx x (List.mem_of_getElem? hi)
   have w2 := wx y (List.mem_of_getElem? hk)
   show touchI x y = touchI y x
   unfold touchI
   rw [meet_symm w1.1 w2.1, meet_symm w1.2 w2.2]
def PaR (w2 : World) (n : Nat) (gs : List (List Nat)) (i k : Nat) (wr : World) : Prop :=
 Below w2.heap.size w2 wr ∧ Blk wr w2.heap.size 3 ((setAll (ofI n gs i) ((gs.getD i []).take k) ((i + 1 : Nat) : Int)).map (Value.int .i64)).toArray
def PaO (w2 : World) (n : Nat) (gs : List (List Nat)) (m v : Value) (wr : World) : Prop := ∃ i : Nat, i ≤ gs.length ∧ v = .i i ∧ m = .i ((gs.take i).flatten.length : Nat) ∧ PaR w2 n gs i 0 wr
def PaN (w2 : World) (n : Nat) (gs : List (List Nat)) (i : Nat) (m v : Value) (wr : World) : Prop := ∃ k : Nat, k ≤ (gs.getD i []).length ∧ v = .i k ∧ m = .i (((gs.take i).flatten.length + k : Nat) : Int) ∧ PaR w2 n gs i k wr
set_option maxRecDepth 100000 in
set_option maxHeartbeats 32000000 in
theorem parts_calls (A : Option Addr) (n c : Nat) (xs : List Cl) (w : World) (hs : SlC w w.heap.size A n xs) (wx : ∀ x ∈ xs, WfIv x.p.a ∧ WfIv x.p.b) :
  Calls Try.prog 4 #[.slice A n c] w fun e w' => e = .returned (.b true) ∧ Below w.heap.size w w' := by
 have HB0 := Below.refl w.heap.size w
 by_cases h30 : 30 < n
 ·have h30' : (30 : Int) < (n : Int) := by omega
  clear hs wx
  go_enter Try.func4, Try.ntmps4
  go_wp2_with (go_at_call 6; (with_reducible refine (awake20_calls _).mono ?_); rintro e' w1 ⟨rfl, hb⟩; have HB1 := bl_trans HB0 hb; clear hb)
  go_ret
  exact ⟨rfl, HB1⟩
 have h30' : ¬ (30 : Int) < (n : Int) := by omega
 have hsym : ∀ i k, i < n → k < n → tL xs i k = tL xs k i := fun i k hi hk => tL_symm xs (by intro x hx; exact wx x hx) i k
 obtain ⟨gs, hgs⟩ : ∃ gs, gs = groupsP (tL xs) n := ⟨_, rfl⟩
 have hstep : ∀ (i k : Nat) (g : List Nat) (x : Nat), gs[i]? = some g → g[k]? = some x → x < n ∧ (setAll (ofI n gs i) (g.take k) ((i + 1 : Nat) : Int))[x]? = some 0 ∧ (∀ y, 0 < k → g[k - 1]? = some y → y < x) := by
  subst hgs; exact fun i k g x h1 h2 => parts_step h1 h2
 have hapart : ∀ i k, i < n → k < n → (ofI n gs gs.length)[i]? ≠ (ofI n gs gs.length)[k]? → tL xs i k = false := by
  subst hgs; exact fun i k hi hk h => parts_apart hsym hi hk h
 have hmany : gs.flatten.length = n := by subst hgs; exact parts_many
 have hmany0 : gs.length ≤ n := by subst hgs; exact (groups_inv (t := tL xs) (n := n)).many
 replace hgs := Lib.hid hgs
 replace hs := Lib.hid hs
 replace hapart := Lib.hid hapart
 replace hstep := Lib.hid hstep
 replace hmany := Lib.hid hmany
 clear hsym
 go_enter Try.func4, Try.ntmps4
 go_wp2_with (first
  | (go_at_call 6; (with_reducible refine (awake20_calls _).mono ?_); rintro e' w1 ⟨rfl, hb⟩; have HB1 := bl_trans HB0 hb; have HG := Lib.hid (groups_calls A n c xs w1 (hs.out.on hb) (by omega)); have S1 := Lib.hid (SlG.on hs.out hb); clear hb)
  | (go_at_call 15; (with_reducible refine HG.out.mono ?_); rintro e' w2 ⟨v, hds, rfl, OH, O2, hb⟩; have HB2 := bl_trans HB1 hb; have S2 := Lib.hid (SlG.on S1.out hb); obtain ⟨Ag, cg, hv⟩ := OH.form; rw [O2.length] at hv; subst hv; rw [← hgs.out] at OH O2 ⊢; replace OH := Lib.hid OH; replace O2 := Lib.hid O2; clear hb S1 HG HB1)
  | (refine wpList_makeZ rfl (.tmp 26) (.tmp 26) rfl n rfl rfl (by omega) ?_; intro W3 hW3; subst hW3))
 have hz3 : (w2.alloc (.cells ((List.replicate n (0 : Int)).map (Value.int .i64)).toArray 3)).heap.size = w2.heap.size + 1 := by simp
 have hR0 : PaO w2 n gs (.i 0) (.i 0) (w2.alloc (.cells ((List.replicate n (0 : Int)).map (Value.int .i64)).toArray 3)) := by
  refine ⟨0, Nat.zero_le _, rfl, rfl, bl_alloc (Below.refl _ _) _, ?_⟩
  have h := Blk.new w2 3 ((List.replicate n (0 : Int)).map (Value.int .i64)).toArray
  show Blk _ _ _ ((setAll (List.replicate n 0) ((gs.getD 0 []).take 0) _).map (Value.int .i64)).toArray
  rw [List.take_zero]
  exact h
 simp only [List.map_replicate, List.toArray_replicate] at hR0 ⊢
 replace hR0 := Lib.hid hR0
 clear hz3
 go_loopw [6, 7, 8, 9] (fun m v _ _ wr => PaO w2 n gs m v wr) (fun _ v _ _ _ => gs.length - (intOf v).toNat)
 case atStart => exact hR0.out
 case round =>
  obtain ⟨i, hi, rfl, rfl, HR⟩ := hrel
  by_cases hlt : i < gs.length
  rotate_left
  ·have hil : i = gs.length := by omega
   subst hil
   clear hR0
   go_wp2_with fail
   have HRb := HR.1
   have BN0 : Blk wr w2.heap.size 3 ((ofI n gs gs.length).map (Value.int .i64)).toArray := by
    have h := HR.2
    rw [List.take_zero] at h
    exact h
   have S4 : SlC wr wr.heap.size A n xs := SlG.on S2.out HRb
   have HB4 := HB2.trans (HRb.mono HB2.size)
   have hol : (ofI n gs gs.length).length = n := ofI_length n gs gs.length
   have hMn : (gs.take gs.length).flatten.length = n := by rw [List.take_length]; exact hmany.out
   rw [hMn]
   generalize ofI n gs gs.length = ol at BN0 hol hapart
   clear hMn HR hi hlt OH O2 HRb
   replace BN0 := Lib.hid BN0
   replace S4 := Lib.hid S4
   replace HB4 := Lib.hid HB4
   obtain ⟨w4, rfl⟩ : ∃ w4, w4 = wr := ⟨_, rfl⟩
   have hR4 : Hid (∃ i : Nat, i ≤ n ∧ (.i 0 : Value) = .i (i : Int) ∧ Below w4.heap.size w4 w4) := ⟨0, Nat.zero_le _, rfl, Below.refl _ _⟩
   go_wp2_with fail
   go_loopw [10, 11, 12, 13] (fun v _ _ _ wr => ∃ i : Nat, i ≤ n ∧ v = .i (i : Int) ∧ Below w4.heap.size w4 wr) (fun v _ _ _ _ => n - (intOf v).toNat)
   case atStart => exact hR4.out
   case round =>
    obtain ⟨i, hi, rfl, HB5⟩ := hrel
    by_cases hlt : i < n
    rotate_left
    ·have hin : i = n := by omega
     subst hin
     go_wp2_with fail
     go_ret
     exact ⟨rfl, HB4.out.trans (HB5.mono HB4.out.size)⟩
    have hR5 : Hid (∃ k : Nat, k ≤ n ∧ (.i 0 : Value) = .i (k : Int) ∧ Below w4.heap.size w4 wr) := ⟨0, Nat.zero_le _, rfl, HB5⟩
    clear HB5 hR4
    go_wp2_with fail
    go_loopw [11, 12, 13] (fun v _ _ wr => ∃ k : Nat, k ≤ n ∧ v = .i (k : Int) ∧ Below w4.heap.size w4 wr) (fun v _ _ _ => n - (intOf v).toNat)
    case atStart => exact hR5.out
    case round =>
     obtain ⟨k, hk, rfl, HBd⟩ := hrel
     by_cases hltk : k < n
     rotate_left
     ·go_wp2_with fail
      exact ⟨⟨i + 1, hlt, by simp, HBd⟩, by simp [intOf]; omega⟩
     obtain ⟨bb, off, x, rfl, hbb, hx, hcx⟩ := S4.out.at_ hlt
     obtain ⟨bb', off', y, e', _, hy, hcy⟩ := S4.out.at_ hltk
     injection e' with e'
     injection e' with e1 e2
     subst e1
     subst e2
     have ht : tL xs i k = touchI x y := by unfold tL; rw [hx, hy]
     obtain ⟨⟨⟨a0, ⟨a1, a2, a3, a4⟩, ⟨a5, a6, a7, a8⟩⟩, ⟨b0, ⟨b1, b2, b3, b4⟩, ⟨b5, b6, b7, b8⟩⟩⟩, ka⟩ := x
     obtain ⟨⟨⟨c0, ⟨c1, c2, c3, c4⟩, ⟨c5, c6, c7, c8⟩⟩, ⟨d0, ⟨d1, d2, d3, d4⟩, ⟨d5, d6, d7, d8⟩⟩⟩, kc⟩ := y
     have RA : w4.rangeAt bb (off + i * 19) [.b a0, .i a1, .b a2, .u a3, .i a4, .i a5, .b a6, .u a7, .i a8] := fun j u hu => hcx j u (by rw [show clCells ⟨⟨⟨a0, ⟨a1, a2, a3, a4⟩, ⟨a5, a6, a7, a8⟩⟩, ⟨b0, ⟨b1, b2, b3, b4⟩, ⟨b5, b6, b7, b8⟩⟩⟩, ka⟩ = [.b a0, .i a1, .b a2, .u a3, .i a4, .i a5, .b a6, .u a7, .i a8] ++ ([.b b0, .i b1, .b b2, .u b3, .i b4, .i b5, .b b6, .u b7, .i b8] ++ [.i ka]) from rfl, List.getElem?_append_left (List.getElem?_eq_some_iff.1 hu).1]; exact hu)
     have RC : w4.rangeAt bb (off + k * 19) [.b c0, .i c1, .b c2, .u c3, .i c4, .i c5, .b c6, .u c7, .i c8] := fun j u hu => hcy j u (by rw [show clCells ⟨⟨⟨c0, ⟨c1, c2, c3, c4⟩, ⟨c5, c6, c7, c8⟩⟩, ⟨d0, ⟨d1, d2, d3, d4⟩, ⟨d5, d6, d7, d8⟩⟩⟩, kc⟩ = [.b c0, .i c1, .b c2, .u c3, .i c4, .i c5, .b c6, .u c7, .i c8] ++ ([.b d0, .i d1, .b d2, .u d3, .i d4, .i d5, .b d6, .u d7, .i d8] ++ [.i kc]) from rfl, List.getElem?_append_left (List.getElem?_eq_some_iff.1 hu).1]; exact hu)
     have RB : w4.rangeAt bb (off + i * 19 + 9) [.b b0, .i b1, .b b2, .u b3, .i b4, .i b5, .b b6, .u b7, .i b8] := fun j u hu => by
      have h := hcx (9 + j) u (by rw [show clCells ⟨⟨⟨a0, ⟨a1, a2, a3, a4⟩, ⟨a5, a6, a7, a8⟩⟩, ⟨b0, ⟨b1, b2, b3, b4⟩, ⟨b5, b6, b7, b8⟩⟩⟩, ka⟩ = [.b a0, .i a1, .b a2, .u a3, .i a4, .i a5, .b a6, .u a7, .i a8] ++ ([.b b0, .i b1, .b b2, .u b3, .i b4, .i b5, .b b6, .u b7, .i b8] ++ [.i ka]) from rfl, List.getElem?_append_right (by simp), List.getElem?_append_left (by have := (List.getElem?_eq_some_iff.1 hu).1; simp at this ⊢; omega)]; simpa using hu)
      rwa [← Nat.add_assoc] at h
     have RD : w4.rangeAt bb (off + k * 19 + 9) [.b d0, .i d1, .b d2, .u d3, .i d4, .i d5, .b d6, .u d7, .i d8] := fun j u hu => by
      have h := hcy (9 + j) u (by rw [show clCells ⟨⟨⟨c0, ⟨c1, c2, c3, c4⟩, ⟨c5, c6, c7, c8⟩⟩, ⟨d0, ⟨d1, d2, d3, d4⟩, ⟨d5, d6, d7, d8⟩⟩⟩, kc⟩ = [.b c0, .i c1, .b c2, .u c3, .i c4, .i c5, .b c6, .u c7, .i c8] ++ ([.b d0, .i d1, .b d2, .u d3, .i d4, .i d5, .b d6, .u d7, .i d8] ++ [.i kc]) from rfl, List.getElem?_append_right (by simp), List.getElem?_append_left (by have := (List.getElem?_eq_some_iff.1 hu).1; simp at this ⊢; omega)]; simpa using hu)
      rwa [← Nat.add_assoc] at h
     have HM := (fun A W h => meetI_calls A 2 2 [⟨a0, ⟨a1, a2, a3, a4⟩, ⟨a5, a6, a7, a8⟩⟩, ⟨c0, ⟨c1, c2, c3, c4⟩, ⟨c5, c6, c7, c8⟩⟩] W h (by omega))
     have HN := (fun A W h => meetI_calls A 2 2 [⟨b0, ⟨b1, b2, b3, b4⟩, ⟨b5, b6, b7, b8⟩⟩, ⟨d0, ⟨d1, d2, d3, d4⟩, ⟨d5, d6, d7, d8⟩⟩] W h (by omega))
     unfold touchI at ht
     dsimp only at HM HN ht
     generalize meetI [⟨a0, ⟨a1, a2, a3, a4⟩, ⟨a5, a6, a7, a8⟩⟩, ⟨c0, ⟨c1, c2, c3, c4⟩, ⟨c5, c6, c7, c8⟩⟩] = r at HM ht
     generalize meetI [⟨b0, ⟨b1, b2, b3, b4⟩, ⟨b5, b6, b7, b8⟩⟩, ⟨d0, ⟨d1, d2, d3, d4⟩, ⟨d5, d6, d7, d8⟩⟩] = q at HN ht
     obtain ⟨r0, ⟨r1, r2, r3, r4⟩, ⟨r5, r6, r7, r8⟩⟩ := r
     obtain ⟨q0, ⟨q1, q2, q3, q4⟩, ⟨q5, q6, q7, q8⟩⟩ := q
     dsimp only at HM HN ht
     replace HM := Lib.hid HM
     replace HN := Lib.hid HN
     obtain ⟨oi, hoi⟩ : ∃ z, ol[i]? = some z := ⟨ol[i], List.getElem?_eq_getElem (by omega)⟩
     obtain ⟨ok_, hok⟩ : ∃ z, ol[k]? = some z := ⟨ol[k], List.getElem?_eq_getElem (by omega)⟩
     have hap : oi ≠ ok_ → (!r0 && !q0) = false := fun hne => by
      rw [← ht]
      exact hapart.out i k hlt hltk (by rw [hoi, hok]; exact fun e => hne (Option.some.inj e))
     clear hcx hcy hx hy ht hR5
     have BN := BN0.out.call HBd
     replace RA := Lib.hid RA
     replace RC := Lib.hid RC
     replace RB := Lib.hid RB
     replace RD := Lib.hid RD
     replace hap := Lib.hid hap
     go_wp2_with fail
     replace BN := BN.drew
     replace HBd := bl_drew HBd
     refine start_ (n := 16) (S := fun w' => w'.rangeAt bb (off + i * 19) [.b a0, .i a1, .b a2, .u a3, .i a4, .i a5, .b a6, .u a7, .i a8] ∧ w'.rangeAt bb (off + k * 19) [.b c0, .i c1, .b c2, .u c3, .i c4, .i c5, .b c6, .u c7, .i c8]) (ds := [15]) (bq 16 0) (by kernel_rfl) rfl rfl ⟨Rng.below RA.out HBd hbb, Rng.below RC.out HBd hbb⟩ (fun hHeld => ?_)
     generalize hWW : World.drew _ = w6 at BN HBd hHeld ⊢
     clear hWW
     refine pure_ (i := 0) (N := some 100) (v := ?_) (a' := ?_) (bq 16 1) rfl rfl (by kernel_rfl) (fun _ _ _ h => h) (Or.inl ⟨by rfl, ?_⟩) ?_ ?_
     rotate_left
     ·intro w'
      go_simp
      with_reducible rfl
     rotate_left
     ·simp only [Act.put, pA, pB, pC]
      rfl
     refine pure_ (i := 1) (N := some 101) (v := ?_) (a' := ?_) (bq 16 3) rfl rfl (by kernel_rfl) (fun _ _ _ h => h) (Or.inl ⟨by rfl, ?_⟩) ?_ ?_
     rotate_left
     ·intro w'
      go_simp
      with_reducible rfl
     rotate_left
     ·simp only [Act.put, pA, pB, pC]
      rfl
     refine pure_ (i := 2) (N := some 102) (v := ?_) (a' := ?_) (bq 16 7) rfl rfl (by kernel_rfl) (fun _ _ _ h => h) (Or.inl ⟨by rfl, ?_⟩) ?_ ?_
     rotate_left
     ·intro w'
      go_simp
      with_reducible rfl
     rotate_left
     ·simp only [Act.put, pA, pB, pC]
      rfl
     refine pure_ (i := 3) (N := some 103) (v := ?_) (a' := ?_) (bq 16 15) rfl rfl (by kernel_rfl) (fun _ _ _ h => h) (Or.inl ⟨by rfl, ?_⟩) ?_ ?_
     rotate_left
     ·intro w'
      go_simp
      with_reducible rfl
     rotate_left
     ·simp only [Act.put, pA, pB, pC]
      rfl
     refine pure_ (i := 4) (N := some 104) (v := ?_) (a' := ?_) (bq 16 31) rfl rfl (by kernel_rfl) (fun _ _ _ h => h) (Or.inl ⟨by rfl, ?_⟩) ?_ ?_
     rotate_left
     ·intro w'
      go_simp
      with_reducible rfl
     rotate_left
     ·simp only [Act.put, pA, pB, pC]
      rfl
     refine take_ (i := 5) (N := some 105) (v := .agg #[.b a0, .i a1, .b a2, .u a3, .i a4, .i a5, .b a6, .u a7, .i a8]) (a' := ?_) (bq 16 63) rfl rfl (by kernel_rfl) (fun _ _ _ h => h) (yieldsIf_load_mid (by rfl) 26 (.tmp 104) rfl bb (off + i * 19) rfl [.b a0, .i a1, .b a2, .u a3, .i a4, .i a5, .b a6, .u a7, .i a8] _ (fun _ h => h.1) Try.underlying26 rfl (by kernel_rfl)) hHeld ?_ ?_
     rotate_left
     ·simp only [Act.put, pA, pB, pC]
      rfl
     refine pure_ (i := 6) (N := some 106) (v := ?_) (a' := ?_) (bq 16 127) rfl rfl (by kernel_rfl) (fun _ _ _ h => h) (Or.inl ⟨by rfl, ?_⟩) ?_ ?_
     rotate_left
     ·intro w'
      go_simp
      with_reducible rfl
     rotate_left
     ·simp only [Act.put, pA, pB, pC]
      rfl
     refine pure_ (i := 7) (N := some 107) (v := ?_) (a' := ?_) (bq 16 255) rfl rfl (by kernel_rfl) (fun _ _ _ h => h) (Or.inl ⟨by rfl, ?_⟩) ?_ ?_
     rotate_left
     ·intro w'
      go_simp
      with_reducible rfl
     rotate_left
     ·simp only [Act.put, pA, pB, pC]
      rfl
     refine pure_ (i := 8) (N := some 108) (v := ?_) (a' := ?_) (bq 16 511) rfl rfl (by kernel_rfl) (fun _ _ _ h => h) (Or.inl ⟨by rfl, ?_⟩) ?_ ?_
     rotate_left
     ·intro w'
      go_simp
      with_reducible rfl
     rotate_left
     ·simp only [Act.put, pA, pB, pC]
      rfl
     refine pure_ (i := 9) (N := some 109) (v := ?_) (a' := ?_) (bq 16 1023) rfl rfl (by kernel_rfl) (fun _ _ _ h => h) (Or.inl ⟨by rfl, ?_⟩) ?_ ?_
     rotate_left
     ·intro w'
      go_simp
      with_reducible rfl
     rotate_left
     ·simp only [Act.put, pA, pB, pC]
      rfl
     refine pure_ (i := 10) (N := some 110) (v := ?_) (a' := ?_) (bq 16 2047) rfl rfl (by kernel_rfl) (fun _ _ _ h => h) (Or.inl ⟨by rfl, ?_⟩) ?_ ?_
     rotate_left
     ·intro w'
      go_simp
      with_reducible rfl
     rotate_left
     ·simp only [Act.put, pA, pB, pC]
      rfl
     refine take_ (i := 11) (N := some 111) (v := .agg #[.b c0, .i c1, .b c2, .u c3, .i c4, .i c5, .b c6, .u c7, .i c8]) (a' := ?_) (bq 16 4095) rfl rfl (by kernel_rfl) (fun _ _ _ h => h) (yieldsIf_load_mid (by rfl) 26 (.tmp 110) rfl bb (off + k * 19) rfl [.b c0, .i c1, .b c2, .u c3, .i c4, .i c5, .b c6, .u c7, .i c8] _ (fun _ h => h.2) Try.underlying26 rfl (by kernel_rfl)) hHeld ?_ ?_
     rotate_left
     ·simp only [Act.put, pA, pB, pC]
      rfl
     refine join_ (σ := Nat × Nat) 1 (bq 16 32767) (fun s => [(112, .slice (some ⟨s.1, 0, none⟩) 2 2), (113, .agg #[.b r0, .i r1, .b r2, .u r3, .i r4, .i r5, .b r6, .u r7, .i r8]), (12, .pointer (some ⟨s.2, 0, none⟩))]) (fun s w' => (Blk w' w2.heap.size 3 (ol.map (Value.int .i64)).toArray ∧ Blk w' s.2 26 #[.b false, .i 0, .b false, .u 0, .i 0, .i 0, .b false, .u 0, .i 0]) ∧ (w4.heap.size ≤ s.2) ∧ Below w4.heap.size w4 w') ?_ (fun hJ => ?_)
     ·skip
      rintro ⟨gs_, ga⟩ w7 ⟨⟨BN, BA⟩, hga, HBd⟩
      clear hHeld
      refine norm_ (a' := ?_) ?_ ?_
      rotate_left
      ·simp only [putAll, Act.put, pA, pB, pC]
       rfl
      obtain ⟨⟨z0, z1, z2, z3, z4, z5, z6, z7, z8⟩, ⟨k0, k1, k2, k3, k4, k5, k6, k7, k8⟩⟩ := BA.c9
      obtain ⟨W9, hW9, BA9, hk9, hL9, hs9⟩ := put9 BA (.b r0) (.i r1) (.b r2) (.u r3) (.i r4) (.i r5) (.b r6) (.u r7) (.i r8)
      refine last_ (i := 15) (N := none) (bq 16 65535) rfl rfl (by kernel_rfl) (by decide) (fun K hK => ?_)
      refine skip_ (w1 := ?_) (by rfl) rfl ?_ ?_
      rotate_left
      ·go_simp
       rfl
      refine hK.out _ _ ?_
      clear hK K
      refine done_ (by kernel_rfl) ?_
      replace BN := hk9 _ _ _ (blk_ne BN BA (by decide)) BN
      replace HBd := hL9 w4 HBd hga
      clear z0 z1 z2 z3 z4 z5 z6 z7 z8 k0 k1 k2 k3 k4 k5 k6 k7 k8 hW9 hk9 hL9 BA hs9
      have BA := BA9
      clear BA9
      go_wp2_with fail
      replace BA := BA.drew
      replace BN := BN.drew
      replace HBd := bl_drew HBd
      refine start_ (n := 16) (S := fun w' => w'.rangeAt bb (off + i * 19 + 9) [.b b0, .i b1, .b b2, .u b3, .i b4, .i b5, .b b6, .u b7, .i b8] ∧ w'.rangeAt bb (off + k * 19 + 9) [.b d0, .i d1, .b d2, .u d3, .i d4, .i d5, .b d6, .u d7, .i d8]) (ds := [15]) (bq 16 0) (by kernel_rfl) rfl rfl ⟨Rng.below RB.out HBd hbb, Rng.below RD.out HBd hbb⟩ (fun hHeld => ?_)
      generalize hWW : World.drew _ = w8 at BA BN HBd hHeld ⊢
      clear hWW
      refine pure_ (i := 0) (N := some 114) (v := ?_) (a' := ?_) (bq 16 1) rfl rfl (by kernel_rfl) (fun _ _ _ h => h) (Or.inl ⟨by rfl, ?_⟩) ?_ ?_
      rotate_left
      ·intro w'
       go_simp
       with_reducible rfl
      rotate_left
      ·simp only [Act.put, pA, pB, pC]
       rfl
      refine pure_ (i := 1) (N := some 115) (v := ?_) (a' := ?_) (bq 16 3) rfl rfl (by kernel_rfl) (fun _ _ _ h => h) (Or.inl ⟨by rfl, ?_⟩) ?_ ?_
      rotate_left
      ·intro w'
       go_simp
       with_reducible rfl
      rotate_left
      ·simp only [Act.put, pA, pB, pC]
       rfl
      refine pure_ (i := 2) (N := some 116) (v := ?_) (a' := ?_) (bq 16 7) rfl rfl (by kernel_rfl) (fun _ _ _ h => h) (Or.inl ⟨by rfl, ?_⟩) ?_ ?_
      rotate_left
      ·intro w'
       go_simp
       with_reducible rfl
      rotate_left
      ·simp only [Act.put, pA, pB, pC]
       rfl
      refine pure_ (i := 3) (N := some 117) (v := ?_) (a' := ?_) (bq 16 15) rfl rfl (by kernel_rfl) (fun _ _ _ h => h) (Or.inl ⟨by rfl, ?_⟩) ?_ ?_
      rotate_left
      ·intro w'
       go_simp
       with_reducible rfl
      rotate_left
      ·simp only [Act.put, pA, pB, pC]
       rfl
      refine pure_ (i := 4) (N := some 118) (v := ?_) (a' := ?_) (bq 16 31) rfl rfl (by kernel_rfl) (fun _ _ _ h => h) (Or.inl ⟨by rfl, ?_⟩) ?_ ?_
      rotate_left
      ·intro w'
       go_simp
       with_reducible rfl
      rotate_left
      ·simp only [Act.put, pA, pB, pC]
       rfl
      refine take_ (i := 5) (N := some 119) (v := .agg #[.b b0, .i b1, .b b2, .u b3, .i b4, .i b5, .b b6, .u b7, .i b8]) (a' := ?_) (bq 16 63) rfl rfl (by kernel_rfl) (fun _ _ _ h => h) (yieldsIf_load_mid (by rfl) 26 (.tmp 118) rfl bb (off + i * 19 + 9) rfl [.b b0, .i b1, .b b2, .u b3, .i b4, .i b5, .b b6, .u b7, .i b8] _ (fun _ h => h.1) Try.underlying26 rfl (by kernel_rfl)) hHeld ?_ ?_
      rotate_left
      ·simp only [Act.put, pA, pB, pC]
       rfl
      refine pure_ (i := 6) (N := some 120) (v := ?_) (a' := ?_) (bq 16 127) rfl rfl (by kernel_rfl) (fun _ _ _ h => h) (Or.inl ⟨by rfl, ?_⟩) ?_ ?_
      rotate_left
      ·intro w'
       go_simp
       with_reducible rfl
      rotate_left
      ·simp only [Act.put, pA, pB, pC]
       rfl
      refine pure_ (i := 7) (N := some 121) (v := ?_) (a' := ?_) (bq 16 255) rfl rfl (by kernel_rfl) (fun _ _ _ h => h) (Or.inl ⟨by rfl, ?_⟩) ?_ ?_
      rotate_left
      ·intro w'
       go_simp
       with_reducible rfl
      rotate_left
      ·simp only [Act.put, pA, pB, pC]
       rfl
      refine pure_ (i := 8) (N := some 122) (v := ?_) (a' := ?_) (bq 16 511) rfl rfl (by kernel_rfl) (fun _ _ _ h => h) (Or.inl ⟨by rfl, ?_⟩) ?_ ?_
      rotate_left
      ·intro w'
       go_simp
       with_reducible rfl
      rotate_left
      ·simp only [Act.put, pA, pB, pC]
       rfl
      refine pure_ (i := 9) (N := some 123) (v := ?_) (a' := ?_) (bq 16 1023) rfl rfl (by kernel_rfl) (fun _ _ _ h => h) (Or.inl ⟨by rfl, ?_⟩) ?_ ?_
      rotate_left
      ·intro w'
       go_simp
       with_reducible rfl
      rotate_left
      ·simp only [Act.put, pA, pB, pC]
       rfl
      refine pure_ (i := 10) (N := some 124) (v := ?_) (a' := ?_) (bq 16 2047) rfl rfl (by kernel_rfl) (fun _ _ _ h => h) (Or.inl ⟨by rfl, ?_⟩) ?_ ?_
      rotate_left
      ·intro w'
       go_simp
       with_reducible rfl
      rotate_left
      ·simp only [Act.put, pA, pB, pC]
       rfl
      refine take_ (i := 11) (N := some 125) (v := .agg #[.b d0, .i d1, .b d2, .u d3, .i d4, .i d5, .b d6, .u d7, .i d8]) (a' := ?_) (bq 16 4095) rfl rfl (by kernel_rfl) (fun _ _ _ h => h) (yieldsIf_load_mid (by rfl) 26 (.tmp 124) rfl bb (off + k * 19 + 9) rfl [.b d0, .i d1, .b d2, .u d3, .i d4, .i d5, .b d6, .u d7, .i d8] _ (fun _ h => h.2) Try.underlying26 rfl (by kernel_rfl)) hHeld ?_ ?_
      rotate_left
      ·simp only [Act.put, pA, pB, pC]
       rfl
      refine join_ (σ := Nat × Nat) 1 (bq 16 32767) (fun s => [(126, .slice (some ⟨s.1, 0, none⟩) 2 2), (127, .agg #[.b q0, .i q1, .b q2, .u q3, .i q4, .i q5, .b q6, .u q7, .i q8]), (13, .pointer (some ⟨s.2, 0, none⟩))]) (fun s w' => (Blk w' ga 26 #[.b r0, .i r1, .b r2, .u r3, .i r4, .i r5, .b r6, .u r7, .i r8] ∧ Blk w' w2.heap.size 3 (ol.map (Value.int .i64)).toArray ∧ Blk w' s.2 26 #[.b false, .i 0, .b false, .u 0, .i 0, .i 0, .b false, .u 0, .i 0]) ∧ (w4.heap.size ≤ s.2 ∧ s.2 ≠ ga) ∧ Below w4.heap.size w4 w') ?_ (fun hJ => ?_)
      ·skip
       rintro ⟨gs2_, gc⟩ w10 ⟨⟨BA, BN, BC⟩, ⟨hgc, hgac⟩, HBd⟩
       clear hHeld
       refine norm_ (a' := ?_) ?_ ?_
       rotate_left
       ·simp only [putAll, Act.put, pA, pB, pC]
        rfl
       obtain ⟨⟨z0, z1, z2, z3, z4, z5, z6, z7, z8⟩, ⟨k0, k1, k2, k3, k4, k5, k6, k7, k8⟩⟩ := BC.c9
       obtain ⟨W11, hW11, BC9, hk9, hL9, hs9⟩ := put9 BC (.b q0) (.i q1) (.b q2) (.u q3) (.i q4) (.i q5) (.b q6) (.u q7) (.i q8)
       refine last_ (i := 15) (N := none) (bq 16 65535) rfl rfl (by kernel_rfl) (by decide) (fun K hK => ?_)
       refine skip_ (w1 := ?_) (by rfl) rfl ?_ ?_
       rotate_left
       ·go_simp
        rfl
       refine hK.out _ _ ?_
       clear hK K
       refine done_ (by kernel_rfl) ?_
       replace BN := hk9 _ _ _ (blk_ne BN BC (by decide)) BN
       replace BA := hk9 _ _ _ (Ne.symm hgac) BA
       replace HBd := hL9 w4 HBd hgc
       clear z0 z1 z2 z3 z4 z5 z6 z7 z8 k0 k1 k2 k3 k4 k5 k6 k7 k8 hW11 hk9 hL9 BC hs9
       go_wp2_with fail
       have k1_ : W11.drew.cell? ⟨w2.heap.size, i, none⟩ = some (.i oi) := (BN.cell i).trans (ints_get hoi)
       have k2_ : W11.drew.cell? ⟨w2.heap.size, k, none⟩ = some (.i ok_) := (BN.cell k).trans (ints_get hok)
       have k3_ : W11.drew.cell? ⟨ga, 0, none⟩ = some (.b r0) := BA.cell 0
       have k4_ : W11.drew.cell? ⟨gc, 0, none⟩ = some (.b q0) := BC9.cell 0
       replace HBd := bl_drew HBd
       clear BN BA BC9
       by_cases hoe : oi = ok_
       ·subst hoe
        refine start_ (n := 19) (S := fun w' => w'.cell? ⟨w2.heap.size, i, none⟩ = some (.i oi) ∧ w'.cell? ⟨w2.heap.size, k, none⟩ = some (.i oi) ∧ w'.cell? ⟨ga, 0, none⟩ = some (.b r0) ∧ w'.cell? ⟨gc, 0, none⟩ = some (.b q0)) (ds := []) (bq 19 0) (by kernel_rfl) rfl rfl ⟨k1_, k2_, k3_, k4_⟩ (fun hHeld => ?_)
        generalize hWW : World.drew _ = w12 at HBd k1_ k2_ k3_ k4_ hHeld ⊢
        clear hWW
        refine pure_ (i := 0) (N := some 128) (v := ?_) (a' := ?_) (bq 19 1) rfl rfl (by kernel_rfl) (fun _ _ _ h => h) (Or.inl ⟨by rfl, ?_⟩) ?_ ?_
        rotate_left
        ·intro w'
         go_simp
         with_reducible rfl
        rotate_left
        ·simp only [Act.put, pA, pB, pC]
         rfl
        refine pure_ (i := 1) (N := some 129) (v := ?_) (a' := ?_) (bq 19 3) rfl rfl (by kernel_rfl) (fun _ _ _ h => h) (Or.inl ⟨by rfl, ?_⟩) ?_ ?_
        rotate_left
        ·intro w'
         go_simp
         with_reducible rfl
        rotate_left
        ·simp only [Act.put, pA, pB, pC]
         rfl
        refine pure_ (i := 2) (N := some 130) (v := ?_) (a' := ?_) (bq 19 7) rfl rfl (by kernel_rfl) (fun _ _ _ h => h) (Or.inl ⟨by rfl, ?_⟩) ?_ ?_
        rotate_left
        ·intro w'
         go_simp
         with_reducible rfl
        rotate_left
        ·simp only [Act.put, pA, pB, pC]
         rfl
        refine take_ (i := 3) (N := some 131) (v := ?_) (a' := ?_) (bq 19 15) rfl rfl (by kernel_rfl) (fun _ _ _ h => h) (Or.inl ⟨by rfl, ?_⟩) hHeld ?_ ?_
        rotate_left
        ·rintro w' ⟨s0_, s1_, s2_, s3_⟩
         go_simp
         with_reducible rfl
        rotate_left
        ·simp only [Act.put, pA, pB, pC]
         rfl
        refine pure_ (i := 4) (N := some 132) (v := ?_) (a' := ?_) (bq 19 31) rfl rfl (by kernel_rfl) (fun _ _ _ h => h) (Or.inl ⟨by rfl, ?_⟩) ?_ ?_
        rotate_left
        ·intro w'
         go_simp
         with_reducible rfl
        rotate_left
        ·simp only [Act.put, pA, pB, pC]
         rfl
        refine pure_ (i := 5) (N := some 133) (v := ?_) (a' := ?_) (bq 19 63) rfl rfl (by kernel_rfl) (fun _ _ _ h => h) (Or.inl ⟨by rfl, ?_⟩) ?_ ?_
        rotate_left
        ·intro w'
         go_simp
         with_reducible rfl
        rotate_left
        ·simp only [Act.put, pA, pB, pC]
         rfl
        refine pure_ (i := 6) (N := some 134) (v := ?_) (a' := ?_) (bq 19 127) rfl rfl (by kernel_rfl) (fun _ _ _ h => h) (Or.inl ⟨by rfl, ?_⟩) ?_ ?_
        rotate_left
        ·intro w'
         go_simp
         with_reducible rfl
        rotate_left
        ·simp only [Act.put, pA, pB, pC]
         rfl
        refine take_ (i := 7) (N := some 135) (v := ?_) (a' := ?_) (bq 19 255) rfl rfl (by kernel_rfl) (fun _ _ _ h => h) (Or.inl ⟨by rfl, ?_⟩) hHeld ?_ ?_
        rotate_left
        ·rintro w' ⟨s0_, s1_, s2_, s3_⟩
         go_simp
         with_reducible rfl
        rotate_left
        ·simp only [Act.put, pA, pB, pC]
         rfl
        refine pure_ (i := 8) (N := some 136) (v := ?_) (a' := ?_) (bq 19 511) rfl rfl (by kernel_rfl) (fun _ _ _ h => h) (Or.inl ⟨by rfl, ?_⟩) ?_ ?_
        rotate_left
        ·intro w'
         go_simp
         with_reducible rfl
        rotate_left
        ·simp only [Act.put, pA, pB, pC]
         rfl
        try rw [hoe'.out]
        refine pure_ (i := 9) (N := some 137) (v := ?_) (a' := ?_) (bq 19 1023) rfl rfl (by kernel_rfl) (fun _ _ _ h => h) (Or.inl ⟨by rfl, ?_⟩) ?_ ?_
        rotate_left
        ·intro w'
         go_simp
         with_reducible rfl
        rotate_left
        ·simp only [Act.put, pA, pB, pC]
         rfl
        refine pure_ (i := 10) (N := some 138) (v := undef) (a' := ?_) (bq 19 2047) rfl rfl (by kernel_rfl) (fun _ _ _ h => h) (Or.inr ⟨by rfl, rfl⟩) ?_ ?_
        rotate_left
        ·simp only [Act.put, pA, pB, pC]
         rfl
        refine pure_ (i := 11) (N := some 139) (v := undef) (a' := ?_) (bq 19 4095) rfl rfl (by kernel_rfl) (fun _ _ _ h => h) (Or.inr ⟨by rfl, rfl⟩) ?_ ?_
        rotate_left
        ·simp only [Act.put, pA, pB, pC]
         rfl
        refine pure_ (i := 12) (N := some 140) (v := undef) (a' := ?_) (bq 19 8191) rfl rfl (by kernel_rfl) (fun _ _ _ h => h) (Or.inr ⟨by rfl, rfl⟩) ?_ ?_
        rotate_left
        ·simp only [Act.put, pA, pB, pC]
         rfl
        refine pure_ (i := 13) (N := some 141) (v := ?_) (a' := ?_) (bq 19 16383) rfl rfl (by kernel_rfl) (fun _ _ _ h => h) (Or.inl ⟨by rfl, ?_⟩) ?_ ?_
        rotate_left
        ·intro w'
         go_simp
         with_reducible rfl
        rotate_left
        ·simp only [Act.put, pA, pB, pC]
         rfl
        refine pure_ (i := 14) (N := some 142) (v := ?_) (a' := ?_) (bq 19 32767) rfl rfl (by kernel_rfl) (fun _ _ _ h => h) (Or.inl ⟨by rfl, ?_⟩) ?_ ?_
        rotate_left
        ·intro w'
         go_simp
         with_reducible rfl
        rotate_left
        ·simp only [Act.put, pA, pB, pC]
         rfl
        refine pure_ (i := 15) (N := some 143) (v := undef) (a' := ?_) (bq 19 65535) rfl rfl (by kernel_rfl) (fun _ _ _ h => h) (Or.inr ⟨by rfl, rfl⟩) ?_ ?_
        rotate_left
        ·simp only [Act.put, pA, pB, pC]
         rfl
        refine pure_ (i := 16) (N := some 144) (v := undef) (a' := ?_) (bq 19 131071) rfl rfl (by kernel_rfl) (fun _ _ _ h => h) (Or.inr ⟨by rfl, rfl⟩) ?_ ?_
        rotate_left
        ·simp only [Act.put, pA, pB, pC]
         rfl
        refine pure_ (i := 17) (N := some 145) (v := undef) (a' := ?_) (bq 19 262143) rfl rfl (by kernel_rfl) (fun _ _ _ h => h) (Or.inr ⟨by rfl, rfl⟩) ?_ ?_
        rotate_left
        ·simp only [Act.put, pA, pB, pC]
         rfl
        refine pure_ (i := 18) (N := some 146) (v := ?_) (a' := ?_) (bq 19 524287) rfl rfl (by kernel_rfl) (fun _ _ _ h => h) (Or.inl ⟨by rfl, ?_⟩) ?_ ?_
        rotate_left
        ·intro w'
         go_simp
         with_reducible rfl
        rotate_left
        ·simp only [Act.put, pA, pB, pC]
         rfl
        refine done_ (by kernel_rfl) ?_
        clear hHeld
        go_wp2_with fail
        exact ⟨⟨k + 1, hltk, by simp, HBd⟩, by simp [intOf]; omega⟩
       have hoe' : Hid ((oi != ok_) = true) := Lib.hid (by simpa using hoe)
       replace hap := hap.out hoe
       cases r0
       rotate_left
       ·skip
        refine start_ (n := 19) (S := fun w' => w'.cell? ⟨w2.heap.size, i, none⟩ = some (.i oi) ∧ w'.cell? ⟨w2.heap.size, k, none⟩ = some (.i ok_) ∧ w'.cell? ⟨ga, 0, none⟩ = some (.b true) ∧ w'.cell? ⟨gc, 0, none⟩ = some (.b q0)) (ds := []) (bq 19 0) (by kernel_rfl) rfl rfl ⟨k1_, k2_, k3_, k4_⟩ (fun hHeld => ?_)
        generalize hWW : World.drew _ = w12 at HBd k1_ k2_ k3_ k4_ hHeld ⊢
        clear hWW
        refine pure_ (i := 0) (N := some 128) (v := ?_) (a' := ?_) (bq 19 1) rfl rfl (by kernel_rfl) (fun _ _ _ h => h) (Or.inl ⟨by rfl, ?_⟩) ?_ ?_
        rotate_left
        ·intro w'
         go_simp
         with_reducible rfl
        rotate_left
        ·simp only [Act.put, pA, pB, pC]
         rfl
        refine pure_ (i := 1) (N := some 129) (v := ?_) (a' := ?_) (bq 19 3) rfl rfl (by kernel_rfl) (fun _ _ _ h => h) (Or.inl ⟨by rfl, ?_⟩) ?_ ?_
        rotate_left
        ·intro w'
         go_simp
         with_reducible rfl
        rotate_left
        ·simp only [Act.put, pA, pB, pC]
         rfl
        refine pure_ (i := 2) (N := some 130) (v := ?_) (a' := ?_) (bq 19 7) rfl rfl (by kernel_rfl) (fun _ _ _ h => h) (Or.inl ⟨by rfl, ?_⟩) ?_ ?_
        rotate_left
        ·intro w'
         go_simp
         with_reducible rfl
        rotate_left
        ·simp only [Act.put, pA, pB, pC]
         rfl
        refine take_ (i := 3) (N := some 131) (v := ?_) (a' := ?_) (bq 19 15) rfl rfl (by kernel_rfl) (fun _ _ _ h => h) (Or.inl ⟨by rfl, ?_⟩) hHeld ?_ ?_
        rotate_left
        ·rintro w' ⟨s0_, s1_, s2_, s3_⟩
         go_simp
         with_reducible rfl
        rotate_left
        ·simp only [Act.put, pA, pB, pC]
         rfl
        refine pure_ (i := 4) (N := some 132) (v := ?_) (a' := ?_) (bq 19 31) rfl rfl (by kernel_rfl) (fun _ _ _ h => h) (Or.inl ⟨by rfl, ?_⟩) ?_ ?_
        rotate_left
        ·intro w'
         go_simp
         with_reducible rfl
        rotate_left
        ·simp only [Act.put, pA, pB, pC]
         rfl
        refine pure_ (i := 5) (N := some 133) (v := ?_) (a' := ?_) (bq 19 63) rfl rfl (by kernel_rfl) (fun _ _ _ h => h) (Or.inl ⟨by rfl, ?_⟩) ?_ ?_
        rotate_left
        ·intro w'
         go_simp
         with_reducible rfl
        rotate_left
        ·simp only [Act.put, pA, pB, pC]
         rfl
        refine pure_ (i := 6) (N := some 134) (v := ?_) (a' := ?_) (bq 19 127) rfl rfl (by kernel_rfl) (fun _ _ _ h => h) (Or.inl ⟨by rfl, ?_⟩) ?_ ?_
        rotate_left
        ·intro w'
         go_simp
         with_reducible rfl
        rotate_left
        ·simp only [Act.put, pA, pB, pC]
         rfl
        refine take_ (i := 7) (N := some 135) (v := ?_) (a' := ?_) (bq 19 255) rfl rfl (by kernel_rfl) (fun _ _ _ h => h) (Or.inl ⟨by rfl, ?_⟩) hHeld ?_ ?_
        rotate_left
        ·rintro w' ⟨s0_, s1_, s2_, s3_⟩
         go_simp
         with_reducible rfl
        rotate_left
        ·simp only [Act.put, pA, pB, pC]
         rfl
        refine pure_ (i := 8) (N := some 136) (v := ?_) (a' := ?_) (bq 19 511) rfl rfl (by kernel_rfl) (fun _ _ _ h => h) (Or.inl ⟨by rfl, ?_⟩) ?_ ?_
        rotate_left
        ·intro w'
         go_simp
         with_reducible rfl
        rotate_left
        ·simp only [Act.put, pA, pB, pC]
         rfl
        try rw [hoe'.out]
        refine pure_ (i := 9) (N := some 137) (v := ?_) (a' := ?_) (bq 19 1023) rfl rfl (by kernel_rfl) (fun _ _ _ h => h) (Or.inl ⟨by rfl, ?_⟩) ?_ ?_
        rotate_left
        ·intro w'
         go_simp
         with_reducible rfl
        rotate_left
        ·simp only [Act.put, pA, pB, pC]
         rfl
        refine pure_ (i := 10) (N := some 138) (v := ?_) (a' := ?_) (bq 19 2047) rfl rfl (by kernel_rfl) (fun _ _ _ h => h) (Or.inl ⟨by rfl, ?_⟩) ?_ ?_
        rotate_left
        ·intro w'
         go_simp
         with_reducible rfl
        rotate_left
        ·simp only [Act.put, pA, pB, pC]
         rfl
        refine take_ (i := 11) (N := some 139) (v := ?_) (a' := ?_) (bq 19 4095) rfl rfl (by kernel_rfl) (fun _ _ _ h => h) (Or.inl ⟨by rfl, ?_⟩) hHeld ?_ ?_
        rotate_left
        ·rintro w' ⟨s0_, s1_, s2_, s3_⟩
         go_simp
         with_reducible rfl
        rotate_left
        ·simp only [Act.put, pA, pB, pC]
         rfl
        refine pure_ (i := 12) (N := some 140) (v := ?_) (a' := ?_) (bq 19 8191) rfl rfl (by kernel_rfl) (fun _ _ _ h => h) (Or.inl ⟨by rfl, ?_⟩) ?_ ?_
        rotate_left
        ·intro w'
         go_simp
         with_reducible rfl
        rotate_left
        ·simp only [Act.put, pA, pB, pC]
         rfl
        refine pure_ (i := 13) (N := some 141) (v := ?_) (a' := ?_) (bq 19 16383) rfl rfl (by kernel_rfl) (fun _ _ _ h => h) (Or.inl ⟨by rfl, ?_⟩) ?_ ?_
        rotate_left
        ·intro w'
         go_simp
         with_reducible rfl
        rotate_left
        ·simp only [Act.put, pA, pB, pC]
         rfl
        refine pure_ (i := 14) (N := some 142) (v := ?_) (a' := ?_) (bq 19 32767) rfl rfl (by kernel_rfl) (fun _ _ _ h => h) (Or.inl ⟨by rfl, ?_⟩) ?_ ?_
        rotate_left
        ·intro w'
         go_simp
         with_reducible rfl
        rotate_left
        ·simp only [Act.put, pA, pB, pC]
         rfl
        refine pure_ (i := 15) (N := some 143) (v := undef) (a' := ?_) (bq 19 65535) rfl rfl (by kernel_rfl) (fun _ _ _ h => h) (Or.inr ⟨by rfl, rfl⟩) ?_ ?_
        rotate_left
        ·simp only [Act.put, pA, pB, pC]
         rfl
        refine pure_ (i := 16) (N := some 144) (v := undef) (a' := ?_) (bq 19 131071) rfl rfl (by kernel_rfl) (fun _ _ _ h => h) (Or.inr ⟨by rfl, rfl⟩) ?_ ?_
        rotate_left
        ·simp only [Act.put, pA, pB, pC]
         rfl
        refine pure_ (i := 17) (N := some 145) (v := undef) (a' := ?_) (bq 19 262143) rfl rfl (by kernel_rfl) (fun _ _ _ h => h) (Or.inr ⟨by rfl, rfl⟩) ?_ ?_
        rotate_left
        ·simp only [Act.put, pA, pB, pC]
         rfl
        refine pure_ (i := 18) (N := some 146) (v := ?_) (a' := ?_) (bq 19 524287) rfl rfl (by kernel_rfl) (fun _ _ _ h => h) (Or.inl ⟨by rfl, ?_⟩) ?_ ?_
        rotate_left
        ·intro w'
         go_simp
         with_reducible rfl
        rotate_left
        ·simp only [Act.put, pA, pB, pC]
         rfl
        refine done_ (by kernel_rfl) ?_
        clear hHeld
        go_wp2_with fail
        exact ⟨⟨k + 1, hltk, by simp, HBd⟩, by simp [intOf]; omega⟩
       have hq : q0 = true := by simpa using hap
       subst hq
       refine start_ (n := 19) (S := fun w' => w'.cell? ⟨w2.heap.size, i, none⟩ = some (.i oi) ∧ w'.cell? ⟨w2.heap.size, k, none⟩ = some (.i ok_) ∧ w'.cell? ⟨ga, 0, none⟩ = some (.b false) ∧ w'.cell? ⟨gc, 0, none⟩ = some (.b true)) (ds := []) (bq 19 0) (by kernel_rfl) rfl rfl ⟨k1_, k2_, k3_, k4_⟩ (fun hHeld => ?_)
       generalize hWW : World.drew _ = w12 at HBd k1_ k2_ k3_ k4_ hHeld ⊢
       clear hWW
       refine pure_ (i := 0) (N := some 128) (v := ?_) (a' := ?_) (bq 19 1) rfl rfl (by kernel_rfl) (fun _ _ _ h => h) (Or.inl ⟨by rfl, ?_⟩) ?_ ?_
       rotate_left
       ·intro w'
        go_simp
        with_reducible rfl
       rotate_left
       ·simp only [Act.put, pA, pB, pC]
        rfl
       refine pure_ (i := 1) (N := some 129) (v := ?_) (a' := ?_) (bq 19 3) rfl rfl (by kernel_rfl) (fun _ _ _ h => h) (Or.inl ⟨by rfl, ?_⟩) ?_ ?_
       rotate_left
       ·intro w'
        go_simp
        with_reducible rfl
       rotate_left
       ·simp only [Act.put, pA, pB, pC]
        rfl
       refine pure_ (i := 2) (N := some 130) (v := ?_) (a' := ?_) (bq 19 7) rfl rfl (by kernel_rfl) (fun _ _ _ h => h) (Or.inl ⟨by rfl, ?_⟩) ?_ ?_
       rotate_left
       ·intro w'
        go_simp
        with_reducible rfl
       rotate_left
       ·simp only [Act.put, pA, pB, pC]
        rfl
       refine take_ (i := 3) (N := some 131) (v := ?_) (a' := ?_) (bq 19 15) rfl rfl (by kernel_rfl) (fun _ _ _ h => h) (Or.inl ⟨by rfl, ?_⟩) hHeld ?_ ?_
       rotate_left
       ·rintro w' ⟨s0_, s1_, s2_, s3_⟩
        go_simp
        with_reducible rfl
       rotate_left
       ·simp only [Act.put, pA, pB, pC]
        rfl
       refine pure_ (i := 4) (N := some 132) (v := ?_) (a' := ?_) (bq 19 31) rfl rfl (by kernel_rfl) (fun _ _ _ h => h) (Or.inl ⟨by rfl, ?_⟩) ?_ ?_
       rotate_left
       ·intro w'
        go_simp
        with_reducible rfl
       rotate_left
       ·simp only [Act.put, pA, pB, pC]
        rfl
       refine pure_ (i := 5) (N := some 133) (v := ?_) (a' := ?_) (bq 19 63) rfl rfl (by kernel_rfl) (fun _ _ _ h => h) (Or.inl ⟨by rfl, ?_⟩) ?_ ?_
       rotate_left
       ·intro w'
        go_simp
        with_reducible rfl
       rotate_left
       ·simp only [Act.put, pA, pB, pC]
        rfl
       refine pure_ (i := 6) (N := some 134) (v := ?_) (a' := ?_) (bq 19 127) rfl rfl (by kernel_rfl) (fun _ _ _ h => h) (Or.inl ⟨by rfl, ?_⟩) ?_ ?_
       rotate_left
       ·intro w'
        go_simp
        with_reducible rfl
       rotate_left
       ·simp only [Act.put, pA, pB, pC]
        rfl
       refine take_ (i := 7) (N := some 135) (v := ?_) (a' := ?_) (bq 19 255) rfl rfl (by kernel_rfl) (fun _ _ _ h => h) (Or.inl ⟨by rfl, ?_⟩) hHeld ?_ ?_
       rotate_left
       ·rintro w' ⟨s0_, s1_, s2_, s3_⟩
        go_simp
        with_reducible rfl
       rotate_left
       ·simp only [Act.put, pA, pB, pC]
        rfl
       refine pure_ (i := 8) (N := some 136) (v := ?_) (a' := ?_) (bq 19 511) rfl rfl (by kernel_rfl) (fun _ _ _ h => h) (Or.inl ⟨by rfl, ?_⟩) ?_ ?_
       rotate_left
       ·intro w'
        go_simp
        with_reducible rfl
       rotate_left
       ·simp only [Act.put, pA, pB, pC]
        rfl
       try rw [hoe'.out]
       refine pure_ (i := 9) (N := some 137) (v := ?_) (a' := ?_) (bq 19 1023) rfl rfl (by kernel_rfl) (fun _ _ _ h => h) (Or.inl ⟨by rfl, ?_⟩) ?_ ?_
       rotate_left
       ·intro w'
        go_simp
        with_reducible rfl
       rotate_left
       ·simp only [Act.put, pA, pB, pC]
        rfl
       refine pure_ (i := 10) (N := some 138) (v := ?_) (a' := ?_) (bq 19 2047) rfl rfl (by kernel_rfl) (fun _ _ _ h => h) (Or.inl ⟨by rfl, ?_⟩) ?_ ?_
       rotate_left
       ·intro w'
        go_simp
        with_reducible rfl
       rotate_left
       ·simp only [Act.put, pA, pB, pC]
        rfl
       refine take_ (i := 11) (N := some 139) (v := ?_) (a' := ?_) (bq 19 4095) rfl rfl (by kernel_rfl) (fun _ _ _ h => h) (Or.inl ⟨by rfl, ?_⟩) hHeld ?_ ?_
       rotate_left
       ·rintro w' ⟨s0_, s1_, s2_, s3_⟩
        go_simp
        with_reducible rfl
       rotate_left
       ·simp only [Act.put, pA, pB, pC]
        rfl
       refine pure_ (i := 12) (N := some 140) (v := ?_) (a' := ?_) (bq 19 8191) rfl rfl (by kernel_rfl) (fun _ _ _ h => h) (Or.inl ⟨by rfl, ?_⟩) ?_ ?_
       rotate_left
       ·intro w'
        go_simp
        with_reducible rfl
       rotate_left
       ·simp only [Act.put, pA, pB, pC]
        rfl
       refine pure_ (i := 13) (N := some 141) (v := ?_) (a' := ?_) (bq 19 16383) rfl rfl (by kernel_rfl) (fun _ _ _ h => h) (Or.inl ⟨by rfl, ?_⟩) ?_ ?_
       rotate_left
       ·intro w'
        go_simp
        with_reducible rfl
       rotate_left
       ·simp only [Act.put, pA, pB, pC]
        rfl
       refine pure_ (i := 14) (N := some 142) (v := ?_) (a' := ?_) (bq 19 32767) rfl rfl (by kernel_rfl) (fun _ _ _ h => h) (Or.inl ⟨by rfl, ?_⟩) ?_ ?_
       rotate_left
       ·intro w'
        go_simp
        with_reducible rfl
       rotate_left
       ·simp only [Act.put, pA, pB, pC]
        rfl
       refine pure_ (i := 15) (N := some 143) (v := ?_) (a' := ?_) (bq 19 65535) rfl rfl (by kernel_rfl) (fun _ _ _ h => h) (Or.inl ⟨by rfl, ?_⟩) ?_ ?_
       rotate_left
       ·intro w'
        go_simp
        with_reducible rfl
       rotate_left
       ·simp only [Act.put, pA, pB, pC]
        rfl
       refine take_ (i := 16) (N := some 144) (v := ?_) (a' := ?_) (bq 19 131071) rfl rfl (by kernel_rfl) (fun _ _ _ h => h) (Or.inl ⟨by rfl, ?_⟩) hHeld ?_ ?_
       rotate_left
       ·rintro w' ⟨s0_, s1_, s2_, s3_⟩
        go_simp
        with_reducible rfl
       rotate_left
       ·simp only [Act.put, pA, pB, pC]
        rfl
       refine pure_ (i := 17) (N := some 145) (v := ?_) (a' := ?_) (bq 19 262143) rfl rfl (by kernel_rfl) (fun _ _ _ h => h) (Or.inl ⟨by rfl, ?_⟩) ?_ ?_
       rotate_left
       ·intro w'
        go_simp
        with_reducible rfl
       rotate_left
       ·simp only [Act.put, pA, pB, pC]
        rfl
       refine pure_ (i := 18) (N := some 146) (v := ?_) (a' := ?_) (bq 19 524287) rfl rfl (by kernel_rfl) (fun _ _ _ h => h) (Or.inl ⟨by rfl, ?_⟩) ?_ ?_
       rotate_left
       ·intro w'
        go_simp
        with_reducible rfl
       rotate_left
       ·simp only [Act.put, pA, pB, pC]
        rfl
       refine done_ (by kernel_rfl) ?_
       clear hHeld
       go_wp2_with fail
       exact ⟨⟨k + 1, hltk, by simp, HBd⟩, by simp [intOf]; omega⟩
      ·skip
       have hz0 := BA.lt
       have hz8 := HBd.size
       refine two_ (i := 12) (j := 14) (Ni := some 126) (Nj := some 13) (bq 16 8191) (bq 16 20479) rfl rfl rfl rfl (by kernel_rfl) (by decide) (by decide) (fun K hK => ?_) (fun K hK => ?_)
       ·skip
        refine value_ (v := ?_) (w1 := ?_) (by rfl) rfl ?_ ?_
        rotate_left 2
        ·go_simp
         first | rfl | (constructor <;> rfl)
        replace BA := BA.alloc (.cells #[.b b0, .i b1, .b b2, .u b3, .i b4, .i b5, .b b6, .u b7, .i b8, .b d0, .i d1, .b d2, .u d3, .i d4, .i d5, .b d6, .u d7, .i d8] 26)
        replace BN := BN.alloc (.cells #[.b b0, .i b1, .b b2, .u b3, .i b4, .i b5, .b b6, .u b7, .i b8, .b d0, .i d1, .b d2, .u d3, .i d4, .i d5, .b d6, .u d7, .i d8] 26)
        replace HBd := bl_alloc HBd (.cells #[.b b0, .i b1, .b b2, .u b3, .i b4, .i b5, .b b6, .u b7, .i b8, .b d0, .i d1, .b d2, .u d3, .i d4, .i d5, .b d6, .u d7, .i d8] 26)
        have BS := Blk.new w8  26 #[.b b0, .i b1, .b b2, .u b3, .i b4, .i b5, .b b6, .u b7, .i b8, .b d0, .i d1, .b d2, .u d3, .i d4, .i d5, .b d6, .u d7, .i d8]
        refine hK.out _ _ ⟨Rng.below RB.out HBd hbb, Rng.below RD.out HBd hbb⟩ (fun hHeld => ?_)
        clear hK K
        refine norm_ (a' := ?_) ?_ ?_
        rotate_left
        ·show Act.put _ (some 126) _ = _
         simp only [Act.put, pA, pB, pC]
         rfl
        refine two_ (i := 13) (j := 14) (Ni := some 127) (Nj := some 13) (bq 16 16383) (bq 16 24575) rfl rfl rfl rfl (by kernel_rfl) (by decide) (by decide) (fun K hK => ?_) (fun K hK => ?_)
        ·skip
         refine goes_ Try.func16 (by kernel_rfl) rfl #[.slice (some ⟨w8.heap.size, 0, none⟩) 2 2] (by first | rfl | go_simp) rfl rfl (by simp only [List.map_toArray, List.map_cons, List.map_nil] <;> rfl) ?_
         with_reducible refine (HN.out _ _ (SlI.lit2 (x := ⟨b0, ⟨b1, b2, b3, b4⟩, ⟨b5, b6, b7, b8⟩⟩) (y := ⟨d0, ⟨d1, d2, d3, d4⟩, ⟨d5, d6, d7, d8⟩⟩) BS BS.lt)).mono ?_
         rintro e wv50 ⟨rfl, hb⟩
         refine ⟨_, rfl, ?_⟩
         replace BA := BA.call hb
         replace BN := BN.call hb
         replace BS := BS.call hb
         replace HBd := bl_trans HBd hb
         have gzwv50 := hb.size
         try simp at gzwv50
         refine hK.out _ _ ⟨Rng.below RB.out HBd hbb, Rng.below RD.out HBd hbb⟩ (fun hHeld => ?_)
         clear hK K hb
         refine norm_ (a' := ?_) ?_ ?_
         rotate_left
         ·show Act.put _ (some 127) _ = _
          simp only [Act.put, pA, pB, pC]
          rfl
         refine one_ (i := 14) (N := some 13) (bq 16 32767) rfl rfl (by kernel_rfl) (by decide) (fun K hK => ?_)
         refine value_ (v := ?_) (w1 := ?_) (by rfl) rfl ?_ ?_
         rotate_left 2
         ·go_simp
          first | rfl | (constructor <;> rfl)
         replace BA := BA.alloc (.cells #[.b false, .i 0, .b false, .u 0, .i 0, .i 0, .b false, .u 0, .i 0] 26)
         replace BN := BN.alloc (.cells #[.b false, .i 0, .b false, .u 0, .i 0, .i 0, .b false, .u 0, .i 0] 26)
         replace BS := BS.alloc (.cells #[.b false, .i 0, .b false, .u 0, .i 0, .i 0, .b false, .u 0, .i 0] 26)
         replace HBd := bl_alloc HBd (.cells #[.b false, .i 0, .b false, .u 0, .i 0, .i 0, .b false, .u 0, .i 0] 26)
         have BC := Blk.new wv50  26 #[.b false, .i 0, .b false, .u 0, .i 0, .i 0, .b false, .u 0, .i 0]
         refine hK.out _ _ ⟨Rng.below RB.out HBd hbb, Rng.below RD.out HBd hbb⟩ (fun hHeld => ?_)
         exact norm_ (by rfl) (hJ (w8.heap.size, wv50.heap.size) _ ⟨⟨BA, BN, BC⟩, ⟨by omega, by omega⟩, HBd⟩)
        ·skip
         refine value_ (v := ?_) (w1 := ?_) (by rfl) rfl ?_ ?_
         rotate_left 2
         ·go_simp
          first | rfl | (constructor <;> rfl)
         replace BA := BA.alloc (.cells #[.b false, .i 0, .b false, .u 0, .i 0, .i 0, .b false, .u 0, .i 0] 26)
         replace BN := BN.alloc (.cells #[.b false, .i 0, .b false, .u 0, .i 0, .i 0, .b false, .u 0, .i 0] 26)
         replace BS := BS.alloc (.cells #[.b false, .i 0, .b false, .u 0, .i 0, .i 0, .b false, .u 0, .i 0] 26)
         replace HBd := bl_alloc HBd (.cells #[.b false, .i 0, .b false, .u 0, .i 0, .i 0, .b false, .u 0, .i 0] 26)
         have BC := Blk.new1 w8 (.cells #[.b b0, .i b1, .b b2, .u b3, .i b4, .i b5, .b b6, .u b7, .i b8, .b d0, .i d1, .b d2, .u d3, .i d4, .i d5, .b d6, .u d7, .i d8] 26) 26 #[.b false, .i 0, .b false, .u 0, .i 0, .i 0, .b false, .u 0, .i 0]
         refine hK.out _ _ ⟨Rng.below RB.out HBd hbb, Rng.below RD.out HBd hbb⟩ (fun hHeld => ?_)
         clear hK K
         refine norm_ (a' := ?_) ?_ ?_
         rotate_left
         ·show Act.put _ (some 13) _ = _
          simp only [Act.put, pA, pB, pC]
          rfl
         refine one_ (i := 13) (N := some 127) (bq 16 32767) rfl rfl (by kernel_rfl) (by decide) (fun K hK => ?_)
         refine goes_ Try.func16 (by kernel_rfl) rfl #[.slice (some ⟨w8.heap.size, 0, none⟩) 2 2] (by first | rfl | go_simp) rfl rfl (by simp only [List.map_toArray, List.map_cons, List.map_nil] <;> rfl) ?_
         with_reducible refine (HN.out _ _ (SlI.lit2 (x := ⟨b0, ⟨b1, b2, b3, b4⟩, ⟨b5, b6, b7, b8⟩⟩) (y := ⟨d0, ⟨d1, d2, d3, d4⟩, ⟨d5, d6, d7, d8⟩⟩) BS BS.lt)).mono ?_
         rintro e wv50 ⟨rfl, hb⟩
         refine ⟨_, rfl, ?_⟩
         replace BA := BA.call hb
         replace BN := BN.call hb
         replace BS := BS.call hb
         replace BC := BC.call hb
         replace HBd := bl_trans HBd hb
         have gzwv50 := hb.size
         try simp at gzwv50
         refine hK.out _ _ ⟨Rng.below RB.out HBd hbb, Rng.below RD.out HBd hbb⟩ (fun hHeld => ?_)
         exact norm_ (by rfl) (hJ (w8.heap.size, w8.heap.size + 1) _ ⟨⟨BA, BN, BC⟩, ⟨by omega, by omega⟩, HBd⟩)
       ·skip
        refine value_ (v := ?_) (w1 := ?_) (by rfl) rfl ?_ ?_
        rotate_left 2
        ·go_simp
         first | rfl | (constructor <;> rfl)
        replace BA := BA.alloc (.cells #[.b false, .i 0, .b false, .u 0, .i 0, .i 0, .b false, .u 0, .i 0] 26)
        replace BN := BN.alloc (.cells #[.b false, .i 0, .b false, .u 0, .i 0, .i 0, .b false, .u 0, .i 0] 26)
        replace HBd := bl_alloc HBd (.cells #[.b false, .i 0, .b false, .u 0, .i 0, .i 0, .b false, .u 0, .i 0] 26)
        have BC := Blk.new w8  26 #[.b false, .i 0, .b false, .u 0, .i 0, .i 0, .b false, .u 0, .i 0]
        refine hK.out _ _ ⟨Rng.below RB.out HBd hbb, Rng.below RD.out HBd hbb⟩ (fun hHeld => ?_)
        clear hK K
        refine norm_ (a' := ?_) ?_ ?_
        rotate_left
        ·show Act.put _ (some 13) _ = _
         simp only [Act.put, pA, pB, pC]
         rfl
        refine one_ (i := 12) (N := some 126) (bq 16 24575) rfl rfl (by kernel_rfl) (by decide) (fun K hK => ?_)
        refine value_ (v := ?_) (w1 := ?_) (by rfl) rfl ?_ ?_
        rotate_left 2
        ·go_simp
         first | rfl | (constructor <;> rfl)
        replace BA := BA.alloc (.cells #[.b b0, .i b1, .b b2, .u b3, .i b4, .i b5, .b b6, .u b7, .i b8, .b d0, .i d1, .b d2, .u d3, .i d4, .i d5, .b d6, .u d7, .i d8] 26)
        replace BN := BN.alloc (.cells #[.b b0, .i b1, .b b2, .u b3, .i b4, .i b5, .b b6, .u b7, .i b8, .b d0, .i d1, .b d2, .u d3, .i d4, .i d5, .b d6, .u d7, .i d8] 26)
        replace BC := BC.alloc (.cells #[.b b0, .i b1, .b b2, .u b3, .i b4, .i b5, .b b6, .u b7, .i b8, .b d0, .i d1, .b d2, .u d3, .i d4, .i d5, .b d6, .u d7, .i d8] 26)
        replace HBd := bl_alloc HBd (.cells #[.b b0, .i b1, .b b2, .u b3, .i b4, .i b5, .b b6, .u b7, .i b8, .b d0, .i d1, .b d2, .u d3, .i d4, .i d5, .b d6, .u d7, .i d8] 26)
        have BS := Blk.new1 w8 (.cells #[.b false, .i 0, .b false, .u 0, .i 0, .i 0, .b false, .u 0, .i 0] 26) 26 #[.b b0, .i b1, .b b2, .u b3, .i b4, .i b5, .b b6, .u b7, .i b8, .b d0, .i d1, .b d2, .u d3, .i d4, .i d5, .b d6, .u d7, .i d8]
        refine hK.out _ _ ⟨Rng.below RB.out HBd hbb, Rng.below RD.out HBd hbb⟩ (fun hHeld => ?_)
        clear hK K
        refine norm_ (a' := ?_) ?_ ?_
        rotate_left
        ·show Act.put _ (some 126) _ = _
         simp only [Act.put, pA, pB, pC]
         rfl
        refine one_ (i := 13) (N := some 127) (bq 16 32767) rfl rfl (by kernel_rfl) (by decide) (fun K hK => ?_)
        refine goes_ Try.func16 (by kernel_rfl) rfl #[.slice (some ⟨w8.heap.size + 1, 0, none⟩) 2 2] (by first | rfl | go_simp) rfl rfl (by simp only [List.map_toArray, List.map_cons, List.map_nil] <;> rfl) ?_
        with_reducible refine (HN.out _ _ (SlI.lit2 (x := ⟨b0, ⟨b1, b2, b3, b4⟩, ⟨b5, b6, b7, b8⟩⟩) (y := ⟨d0, ⟨d1, d2, d3, d4⟩, ⟨d5, d6, d7, d8⟩⟩) BS BS.lt)).mono ?_
        rintro e wv50 ⟨rfl, hb⟩
        refine ⟨_, rfl, ?_⟩
        replace BA := BA.call hb
        replace BN := BN.call hb
        replace BC := BC.call hb
        replace BS := BS.call hb
        replace HBd := bl_trans HBd hb
        have gzwv50 := hb.size
        try simp at gzwv50
        refine hK.out _ _ ⟨Rng.below RB.out HBd hbb, Rng.below RD.out HBd hbb⟩ (fun hHeld => ?_)
        exact norm_ (by rfl) (hJ (w8.heap.size + 1, w8.heap.size) _ ⟨⟨BA, BN, BC⟩, ⟨by omega, by omega⟩, HBd⟩)
     ·skip
      have hz6 := HBd.size
      refine two_ (i := 12) (j := 14) (Ni := some 112) (Nj := some 12) (bq 16 8191) (bq 16 20479) rfl rfl rfl rfl (by kernel_rfl) (by decide) (by decide) (fun K hK => ?_) (fun K hK => ?_)
      ·skip
       refine value_ (v := ?_) (w1 := ?_) (by rfl) rfl ?_ ?_
       rotate_left 2
       ·go_simp
        first | rfl | (constructor <;> rfl)
       replace BN := BN.alloc (.cells #[.b a0, .i a1, .b a2, .u a3, .i a4, .i a5, .b a6, .u a7, .i a8, .b c0, .i c1, .b c2, .u c3, .i c4, .i c5, .b c6, .u c7, .i c8] 26)
       replace HBd := bl_alloc HBd (.cells #[.b a0, .i a1, .b a2, .u a3, .i a4, .i a5, .b a6, .u a7, .i a8, .b c0, .i c1, .b c2, .u c3, .i c4, .i c5, .b c6, .u c7, .i c8] 26)
       have BS := Blk.new w6  26 #[.b a0, .i a1, .b a2, .u a3, .i a4, .i a5, .b a6, .u a7, .i a8, .b c0, .i c1, .b c2, .u c3, .i c4, .i c5, .b c6, .u c7, .i c8]
       refine hK.out _ _ ⟨Rng.below RA.out HBd hbb, Rng.below RC.out HBd hbb⟩ (fun hHeld => ?_)
       clear hK K
       refine norm_ (a' := ?_) ?_ ?_
       rotate_left
       ·show Act.put _ (some 112) _ = _
        simp only [Act.put, pA, pB, pC]
        rfl
       refine two_ (i := 13) (j := 14) (Ni := some 113) (Nj := some 12) (bq 16 16383) (bq 16 24575) rfl rfl rfl rfl (by kernel_rfl) (by decide) (by decide) (fun K hK => ?_) (fun K hK => ?_)
       ·skip
        refine goes_ Try.func16 (by kernel_rfl) rfl #[.slice (some ⟨w6.heap.size, 0, none⟩) 2 2] (by first | rfl | go_simp) rfl rfl (by simp only [List.map_toArray, List.map_cons, List.map_nil] <;> rfl) ?_
        with_reducible refine (HM.out _ _ (SlI.lit2 (x := ⟨a0, ⟨a1, a2, a3, a4⟩, ⟨a5, a6, a7, a8⟩⟩) (y := ⟨c0, ⟨c1, c2, c3, c4⟩, ⟨c5, c6, c7, c8⟩⟩) BS BS.lt)).mono ?_
        rintro e wv50 ⟨rfl, hb⟩
        refine ⟨_, rfl, ?_⟩
        replace BN := BN.call hb
        replace BS := BS.call hb
        replace HBd := bl_trans HBd hb
        have gzwv50 := hb.size
        try simp at gzwv50
        refine hK.out _ _ ⟨Rng.below RA.out HBd hbb, Rng.below RC.out HBd hbb⟩ (fun hHeld => ?_)
        clear hK K hb
        refine norm_ (a' := ?_) ?_ ?_
        rotate_left
        ·show Act.put _ (some 113) _ = _
         simp only [Act.put, pA, pB, pC]
         rfl
        refine one_ (i := 14) (N := some 12) (bq 16 32767) rfl rfl (by kernel_rfl) (by decide) (fun K hK => ?_)
        refine value_ (v := ?_) (w1 := ?_) (by rfl) rfl ?_ ?_
        rotate_left 2
        ·go_simp
         first | rfl | (constructor <;> rfl)
        replace BN := BN.alloc (.cells #[.b false, .i 0, .b false, .u 0, .i 0, .i 0, .b false, .u 0, .i 0] 26)
        replace BS := BS.alloc (.cells #[.b false, .i 0, .b false, .u 0, .i 0, .i 0, .b false, .u 0, .i 0] 26)
        replace HBd := bl_alloc HBd (.cells #[.b false, .i 0, .b false, .u 0, .i 0, .i 0, .b false, .u 0, .i 0] 26)
        have BA := Blk.new wv50  26 #[.b false, .i 0, .b false, .u 0, .i 0, .i 0, .b false, .u 0, .i 0]
        refine hK.out _ _ ⟨Rng.below RA.out HBd hbb, Rng.below RC.out HBd hbb⟩ (fun hHeld => ?_)
        exact norm_ (by rfl) (hJ (w6.heap.size, wv50.heap.size) _ ⟨⟨BN, BA⟩, by omega, HBd⟩)
       ·skip
        refine value_ (v := ?_) (w1 := ?_) (by rfl) rfl ?_ ?_
        rotate_left 2
        ·go_simp
         first | rfl | (constructor <;> rfl)
        replace BN := BN.alloc (.cells #[.b false, .i 0, .b false, .u 0, .i 0, .i 0, .b false, .u 0, .i 0] 26)
        replace BS := BS.alloc (.cells #[.b false, .i 0, .b false, .u 0, .i 0, .i 0, .b false, .u 0, .i 0] 26)
        replace HBd := bl_alloc HBd (.cells #[.b false, .i 0, .b false, .u 0, .i 0, .i 0, .b false, .u 0, .i 0] 26)
        have BA := Blk.new1 w6 (.cells #[.b a0, .i a1, .b a2, .u a3, .i a4, .i a5, .b a6, .u a7, .i a8, .b c0, .i c1, .b c2, .u c3, .i c4, .i c5, .b c6, .u c7, .i c8] 26) 26 #[.b false, .i 0, .b false, .u 0, .i 0, .i 0, .b false, .u 0, .i 0]
        refine hK.out _ _ ⟨Rng.below RA.out HBd hbb, Rng.below RC.out HBd hbb⟩ (fun hHeld => ?_)
        clear hK K
        refine norm_ (a' := ?_) ?_ ?_
        rotate_left
        ·show Act.put _ (some 12) _ = _
         simp only [Act.put, pA, pB, pC]
         rfl
        refine one_ (i := 13) (N := some 113) (bq 16 32767) rfl rfl (by kernel_rfl) (by decide) (fun K hK => ?_)
        refine goes_ Try.func16 (by kernel_rfl) rfl #[.slice (some ⟨w6.heap.size, 0, none⟩) 2 2] (by first | rfl | go_simp) rfl rfl (by simp only [List.map_toArray, List.map_cons, List.map_nil] <;> rfl) ?_
        with_reducible refine (HM.out _ _ (SlI.lit2 (x := ⟨a0, ⟨a1, a2, a3, a4⟩, ⟨a5, a6, a7, a8⟩⟩) (y := ⟨c0, ⟨c1, c2, c3, c4⟩, ⟨c5, c6, c7, c8⟩⟩) BS BS.lt)).mono ?_
        rintro e wv50 ⟨rfl, hb⟩
        refine ⟨_, rfl, ?_⟩
        replace BN := BN.call hb
        replace BS := BS.call hb
        replace BA := BA.call hb
        replace HBd := bl_trans HBd hb
        have gzwv50 := hb.size
        try simp at gzwv50
        refine hK.out _ _ ⟨Rng.below RA.out HBd hbb, Rng.below RC.out HBd hbb⟩ (fun hHeld => ?_)
        exact norm_ (by rfl) (hJ (w6.heap.size, w6.heap.size + 1) _ ⟨⟨BN, BA⟩, by omega, HBd⟩)
      ·skip
       refine value_ (v := ?_) (w1 := ?_) (by rfl) rfl ?_ ?_
       rotate_left 2
       ·go_simp
        first | rfl | (constructor <;> rfl)
       replace BN := BN.alloc (.cells #[.b false, .i 0, .b false, .u 0, .i 0, .i 0, .b false, .u 0, .i 0] 26)
       replace HBd := bl_alloc HBd (.cells #[.b false, .i 0, .b false, .u 0, .i 0, .i 0, .b false, .u 0, .i 0] 26)
       have BA := Blk.new w6  26 #[.b false, .i 0, .b false, .u 0, .i 0, .i 0, .b false, .u 0, .i 0]
       refine hK.out _ _ ⟨Rng.below RA.out HBd hbb, Rng.below RC.out HBd hbb⟩ (fun hHeld => ?_)
       clear hK K
       refine norm_ (a' := ?_) ?_ ?_
       rotate_left
       ·show Act.put _ (some 12) _ = _
        simp only [Act.put, pA, pB, pC]
        rfl
       refine one_ (i := 12) (N := some 112) (bq 16 24575) rfl rfl (by kernel_rfl) (by decide) (fun K hK => ?_)
       refine value_ (v := ?_) (w1 := ?_) (by rfl) rfl ?_ ?_
       rotate_left 2
       ·go_simp
        first | rfl | (constructor <;> rfl)
       replace BN := BN.alloc (.cells #[.b a0, .i a1, .b a2, .u a3, .i a4, .i a5, .b a6, .u a7, .i a8, .b c0, .i c1, .b c2, .u c3, .i c4, .i c5, .b c6, .u c7, .i c8] 26)
       replace BA := BA.alloc (.cells #[.b a0, .i a1, .b a2, .u a3, .i a4, .i a5, .b a6, .u a7, .i a8, .b c0, .i c1, .b c2, .u c3, .i c4, .i c5, .b c6, .u c7, .i c8] 26)
       replace HBd := bl_alloc HBd (.cells #[.b a0, .i a1, .b a2, .u a3, .i a4, .i a5, .b a6, .u a7, .i a8, .b c0, .i c1, .b c2, .u c3, .i c4, .i c5, .b c6, .u c7, .i c8] 26)
       have BS := Blk.new1 w6 (.cells #[.b false, .i 0, .b false, .u 0, .i 0, .i 0, .b false, .u 0, .i 0] 26) 26 #[.b a0, .i a1, .b a2, .u a3, .i a4, .i a5, .b a6, .u a7, .i a8, .b c0, .i c1, .b c2, .u c3, .i c4, .i c5, .b c6, .u c7, .i c8]
       refine hK.out _ _ ⟨Rng.below RA.out HBd hbb, Rng.below RC.out HBd hbb⟩ (fun hHeld => ?_)
       clear hK K
       refine norm_ (a' := ?_) ?_ ?_
       rotate_left
       ·show Act.put _ (some 112) _ = _
        simp only [Act.put, pA, pB, pC]
        rfl
       refine one_ (i := 13) (N := some 113) (bq 16 32767) rfl rfl (by kernel_rfl) (by decide) (fun K hK => ?_)
       refine goes_ Try.func16 (by kernel_rfl) rfl #[.slice (some ⟨w6.heap.size + 1, 0, none⟩) 2 2] (by first | rfl | go_simp) rfl rfl (by simp only [List.map_toArray, List.map_cons, List.map_nil] <;> rfl) ?_
       with_reducible refine (HM.out _ _ (SlI.lit2 (x := ⟨a0, ⟨a1, a2, a3, a4⟩, ⟨a5, a6, a7, a8⟩⟩) (y := ⟨c0, ⟨c1, c2, c3, c4⟩, ⟨c5, c6, c7, c8⟩⟩) BS BS.lt)).mono ?_
       rintro e wv50 ⟨rfl, hb⟩
       refine ⟨_, rfl, ?_⟩
       replace BN := BN.call hb
       replace BA := BA.call hb
       replace BS := BS.call hb
       replace HBd := bl_trans HBd hb
       have gzwv50 := hb.size
       try simp at gzwv50
       refine hK.out _ _ ⟨Rng.below RA.out HBd hbb, Rng.below RC.out HBd hbb⟩ (fun hHeld => ?_)
       exact norm_ (by rfl) (hJ (w6.heap.size + 1, w6.heap.size) _ ⟨⟨BN, BA⟩, by omega, HBd⟩)
  obtain ⟨g, hg⟩ : ∃ g, gs[i]? = some g := ⟨gs[i], List.getElem?_eq_getElem hlt⟩
  have hgd : gs.getD i [] = g := by rw [List.getD_eq_getElem?_getD, hg]; rfl
  have hI0 : PaN w2 n gs i (.i ((gs.take i).flatten.length : Nat)) (.i 0) wr := ⟨0, Nat.zero_le _, rfl, rfl, HR⟩
  replace hI0 := Lib.hid hI0
  replace hgd := Lib.hid hgd
  replace hg := Lib.hid hg
  generalize hM : (gs.take i).flatten.length = M at hI0 ⊢
  replace hM := Lib.hid hM
  clear hR0 HR
  have hi30 : i ≤ 30 := by omega
  go_wp2_with fail
  go_loopw [6, 8, 9] (fun m v _ wr => PaN w2 n gs i m v wr) (fun _ v _ _ => g.length - (intOf v).toNat)
  case atStart => exact hI0.out
  case round =>
   obtain ⟨k, hk, rfl, rfl, HR⟩ := hrel
   rw [hgd.out] at hk
   rw [hM.out]
   obtain ⟨gb, go, Ai, ci, rfl, hch, hints⟩ := heads_at OH.out O2.out HR.1 rfl hg.out
   by_cases hkl : k < g.length
   rotate_left
   ·have hkg : k = g.length := by omega
    replace HR := Lib.hid HR
    replace hkg := Lib.hid hkg
    clear hints
    generalize hgl : g.length = gl at hch hkl
    replace hgl := Lib.hid hgl
    go_wp2_with fail
    refine ⟨⟨i + 1, hlt, by simp, ?_, HR.out.1, ?_⟩, by simp [intOf]; omega⟩
    ·rw [flat_take gs i g hg.out, hkg.out, hM.out]
    ·have h := HR.out.2
     rw [hkg.out, hgd.out, List.take_of_length_le (Nat.le_refl _)] at h
     show Blk _ _ _ ((setAll (setAll (ofI n gs i) (gs.getD i []) ((i + 1 : Nat) : Int)) (List.take 0 _) _).map (Value.int .i64)).toArray
     rw [List.take_zero, hgd.out]
     exact h
   obtain ⟨x, hx⟩ : ∃ x, g[k]? = some x := ⟨g[k], List.getElem?_eq_getElem hkl⟩
   obtain ⟨ib, io, rfl, hcx⟩ := hints k x hx
   obtain ⟨hxn, ho, hprev⟩ := hstep.out i k g x hg.out hx
   have hBk := HR.2
   rw [hgd.out] at hBk
   have cN : wr.cell? ⟨w2.heap.size, x, none⟩ = some (.i 0) := (hBk.cell x).trans (ints_get ho)
   have fN : wr.frozen? ⟨w2.heap.size, x, none⟩ = false := hBk.frozen x
   obtain ⟨W5, hW5, BN5, P5⟩ := put1 hBk x (.i ((i : Int) + 1))
   rw [ints_set] at BN5
   have hfin : PaR w2 n gs i (k + 1) W5 := by
    refine ⟨P5.bel HR.1 (Nat.le_refl _), ?_⟩
    rw [hgd.out, List.take_add_one, hx]
    show Blk W5 _ _ ((setAll (ofI n gs i) (g.take k ++ [x]) _).map (Value.int .i64)).toArray
    rw [setAll_snoc]
    exact BN5
   have hxi : (x : Int) < (n : Int) := by omega
   have hx0 : ¬ (x : Int) < 0 := by omega
   have hxg : ¬ (n : Int) ≤ (x : Int) := by omega
   have hmb : M + k ≤ 2000 := by
    have h1 := hmany.out
    have h2 := flat_take gs i g hg.out
    have h3 : (gs.take (i + 1)).flatten.length ≤ gs.flatten.length := by
     conv => rhs; rw [← List.take_append_drop (i + 1) gs]
     rw [List.flatten_append, List.length_append]
     omega
    have h4 := hM.out
    omega
   replace hfin := Lib.hid hfin
   clear hBk BN5 P5 HR ho
   have hk30 : k ≤ 2000 := by omega
   generalize hgl : g.length = gl at hch hkl
   replace hgl := Lib.hid hgl
   rcases Nat.eq_zero_or_pos k with h0 | h0
   ·subst h0
    clear hints hprev
    have hcx0 : wr.cell? ⟨ib, io, none⟩ = some (.i (x : Int)) := by simpa using hcx
    clear hcx
    replace hx := Lib.hid hx
    go_wp2_with fail
    refine ⟨⟨0 + 1, by rw [hgd.out]; have := hgl.out; omega, by simp, ?_, hfin.out⟩, by simp [intOf]; omega⟩
    rw [hM.out]
    congr 1
   ·obtain ⟨k', rfl⟩ : ∃ k', k = k' + 1 := ⟨k - 1, by omega⟩
    obtain ⟨y, hy⟩ : ∃ y, g[k']? = some y := ⟨g[k'], List.getElem?_eq_getElem (by have := hgl.out; omega)⟩
    obtain ⟨ib', io', e', hcy⟩ := hints k' y hy
    injection e' with e'
    injection e' with e1 e2
    subst e1
    subst e2
    have hyx : (y : Int) < (x : Int) := by have := hprev y (by omega) (by simpa using hy); omega
    have hyx' : ¬ (x : Int) ≤ (y : Int) := by omega
    have em : (((k' + 1 : Nat) : Int) - 1) = k' := by omega
    clear hints hprev
    replace hx := Lib.hid hx
    replace hy := Lib.hid hy
    go_wp2_with fail
    refine ⟨⟨k' + 1 + 1, by rw [hgd.out]; have := hgl.out; omega, by simp, ?_, hfin.out⟩, by simp [intOf]; omega⟩
    rw [hM.out]
    congr 1
end Go.Proofs.Yteabdeohhmbclaa.Wk
