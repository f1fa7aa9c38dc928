/- Walk: paving.moves. -/
import Derived.Test.YteabdeohhmbclaaGreatOvDy
namespace Go.Proofs.YteabdeohhmbclaaGreat.Wk
open Go.RowKit Go.Proofs.Pl Go.Proofs.YteabdeohhmbclaaGreatW.PrintLast
set_option linter.unusedSimpArgs false
set_option linter.unusedVariables false

def WfS (x : Slc) : Prop := Wf x.e ∧ WfIv x.a ∧ WfIv x.o
def WfTb (s : Num) (i : Iv) (xs : List Slc) : Prop := Wf s ∧ WfIv i ∧ ∀ x ∈ xs, WfS x
theorem allI_wf : WfIv allI := ⟨wf_inf _, wf_inf _⟩
theorem sliceAt_wf {xs : List Slc} (h : ∀ x ∈ xs, WfS x) (k : Nat) : WfS (sliceAt xs k) := by
 unfold sliceAt
 rw [List.getD_eq_getElem?_getD]
 cases hk : xs[k]? with
 | none => exact ⟨zero_wf, noneI_wf, noneI_wf⟩
 | some x => exact h x (List.mem_of_getElem? hk)
theorem meet2_wf {a b : Iv} (wa : WfIv a) (wb : WfIv b) : WfIv (meet2 a b) := meet_wf _ fun x hx => by
 rcases List.mem_cons.1 hx with rfl | hx
 ·exact wa
 ·rw [List.mem_singleton.1 hx]; exact wb
theorem gIv_wf {s : Num} {i : Iv} {xs : List Slc} (h : WfTb s i xs) (k : Nat) : WfIv (gIv i xs k) := by
 have h0 : WfIv (gIv0 i xs k) := by
  unfold gIv0
  split
  ·exact h.2.1
  ·exact meet2_wf (sliceAt_wf h.2.2 _).2.2 (sliceAt_wf h.2.2 _).2.1
 unfold gIv
 split
 ·exact meet2_wf h0 (sliceAt_wf h.2.2 _).2.1
 ·exact h0
theorem gatesL_wf {s : Num} {i : Iv} {xs : List Slc} (h : WfTb s i xs) {n : Nat} {g : Nat × Num × Iv} (hg : g ∈ gatesL s i xs n) : WfIv g.2.2 := by
 unfold gatesL at hg
 obtain ⟨k, _, rfl⟩ := List.mem_map.1 hg
 exact gIv_wf h k
theorem atT_wf {s : Num} {i : Iv} {xs : List Slc} (h : WfTb s i xs) (x : Num) : WfIv (atT s i xs x) := by
 unfold atT
 split
 ·split
  ·rename_i g hg
   exact gatesL_wf h (List.mem_of_find?_eq_some hg)
  ·split
   ·exact allI_wf
   ·exact (sliceAt_wf h.2.2 _).2.1
 ·exact noneI_wf
theorem overF_wf {s : Num} {i : Iv} {xs : List Slc} (h : WfTb s i xs) (x : Iv) : ∀ (l : List (Nat × Num × Iv)) (st : List Iv × Num), (∀ g ∈ l, WfIv g.2.2) → (∀ z ∈ st.1, WfIv z) → ∀ z ∈ (overF x xs st l).1, WfIv z
 | [], st, _, hs => hs
 | g :: l, st, hl, hs => by
  refine overF_wf h x l _ (fun z hz => hl z (List.mem_cons_of_mem _ hz)) fun z hz => ?_
  rcases List.mem_append.1 hz with hz | hz
  ·exact hs z hz
  ·unfold overStep at hz
   rcases List.mem_append.1 hz with hz | hz
   ·split at hz
    ·rw [List.mem_singleton.1 hz]; exact hl g (List.mem_cons_self ..)
    ·cases hz
   ·split at hz
    ·rw [List.mem_singleton.1 hz]; exact (sliceAt_wf h.2.2 _).2.1
    ·cases hz
theorem overT_wf {s : Num} {i : Iv} {xs : List Slc} (h : WfTb s i xs) (x : Iv) : WfIv (overT s i xs x) := by
 unfold overT
 split
 ·exact noneI_wf
 ·split
  ·exact allI_wf
  ·refine hull_wf _ (overF_wf h x _ _ (fun g hg => gatesL_wf h hg) fun z hz => ?_)
   rcases List.mem_cons.1 hz with rfl | hz
   ·exact atT_wf h _
   ·rw [List.mem_singleton.1 hz]; exact atT_wf h _
def movesP (s : Num) (i : Iv) (xs : List Slc) (a b : Iv) : Bool := !hasI (subI (overT s i xs b) (overT s i xs a)) zero
set_option maxRecDepth 100000 in
set_option maxHeartbeats 8000000 in
theorem moves_calls (s0 : Int) (s1 : Bool) (s2 s3 : Int) (i0 : Bool) (i1 : Int) (i2 : Bool) (i3 i4 i5 : Int) (i6 : Bool) (i7 i8 : Int) (A : Option Addr) (n c : Nat) (xs : List Slc) (a0 : Bool) (a1 : Int) (a2 : Bool) (a3 a4 a5 : Int) (a6 : Bool) (a7 a8 : Int) (b0 : Bool) (b1 : Int) (b2 : Bool) (b3 b4 b5 : Int) (b6 : Bool) (b7 b8 : Int) (w : World) (hs : SlT w w.heap.size A n xs) (wt : WfTb ⟨s0, s1, s2, s3⟩ ⟨i0, ⟨i1, i2, i3, i4⟩, ⟨i5, i6, i7, i8⟩⟩ xs) :
  Calls Tryz.prog 59 #[.agg #[.i s0, .b s1, .u s2, .i s3, .b i0, .i i1, .b i2, .u i3, .i i4, .i i5, .b i6, .u i7, .i i8, .slice A n c], .agg #[.b a0, .i a1, .b a2, .u a3, .i a4, .i a5, .b a6, .u a7, .i a8, .b b0, .i b1, .b b2, .u b3, .i b4, .i b5, .b b6, .u b7, .i b8]] w fun e w' => e = .returned (.b (movesP ⟨s0, s1, s2, s3⟩ ⟨i0, ⟨i1, i2, i3, i4⟩, ⟨i5, i6, i7, i8⟩⟩ xs ⟨a0, ⟨a1, a2, a3, a4⟩, ⟨a5, a6, a7, a8⟩⟩ ⟨b0, ⟨b1, b2, b3, b4⟩, ⟨b5, b6, b7, b8⟩⟩)) ∧ Below w.heap.size w w' := by
 unfold movesP
 have HA := (fun W h => over_calls s0 s1 s2 s3 i0 i1 i2 i3 i4 i5 i6 i7 i8 A n c xs a0 a1 a2 a3 a4 a5 a6 a7 a8 W h)
 have HB := (fun W h => over_calls s0 s1 s2 s3 i0 i1 i2 i3 i4 i5 i6 i7 i8 A n c xs b0 b1 b2 b3 b4 b5 b6 b7 b8 W h)
 have wa := overT_wf wt ⟨a0, ⟨a1, a2, a3, a4⟩, ⟨a5, a6, a7, a8⟩⟩
 have wb := overT_wf wt ⟨b0, ⟨b1, b2, b3, b4⟩, ⟨b5, b6, b7, b8⟩⟩
 generalize overT ⟨s0, s1, s2, s3⟩ ⟨i0, ⟨i1, i2, i3, i4⟩, ⟨i5, i6, i7, i8⟩⟩ xs ⟨a0, ⟨a1, a2, a3, a4⟩, ⟨a5, a6, a7, a8⟩⟩ = p at HA wa ⊢
 generalize overT ⟨s0, s1, s2, s3⟩ ⟨i0, ⟨i1, i2, i3, i4⟩, ⟨i5, i6, i7, i8⟩⟩ xs ⟨b0, ⟨b1, b2, b3, b4⟩, ⟨b5, b6, b7, b8⟩⟩ = q at HB wb ⊢
 obtain ⟨p0, ⟨p1, p2, p3, p4⟩, ⟨p5, p6, p7, p8⟩⟩ := p
 obtain ⟨q0, ⟨q1, q2, q3, q4⟩, ⟨q5, q6, q7, q8⟩⟩ := q
 have HS := (fun W => opsub_calls q0 q1 q2 q3 q4 q5 q6 q7 q8 p0 p1 p2 p3 p4 p5 p6 p7 p8 W wb wa)
 generalize subI ⟨q0, ⟨q1, q2, q3, q4⟩, ⟨q5, q6, q7, q8⟩⟩ ⟨p0, ⟨p1, p2, p3, p4⟩, ⟨p5, p6, p7, p8⟩⟩ = r at HS ⊢
 obtain ⟨r0, ⟨r1, r2, r3, r4⟩, ⟨r5, r6, r7, r8⟩⟩ := r
 have HH := (fun W => hasI_calls r0 r1 r2 r3 r4 r5 r6 r7 r8 0 false 0 0 W)
 rw [show zero = (⟨0, false, 0, 0⟩ : Num) from rfl]
 generalize hasI ⟨r0, ⟨r1, r2, r3, r4⟩, ⟨r5, r6, r7, r8⟩⟩ ⟨0, false, 0, 0⟩ = h at HH ⊢
 dsimp only at HA HB HS HH ⊢
 clear wa wb wt
 replace HA := Lib.hid HA
 replace HB := Lib.hid HB
 replace HS := Lib.hid HS
 replace HH := Lib.hid HH
 have BT : Blk _ w.heap.size 37 #[.i s0, .b s1, .u s2, .i s3, .b i0, .i i1, .b i2, .u i3, .i i4, .i i5, .b i6, .u i7, .i i8, .slice A n c] := (Blk.new w _ _).alloc (.cells #[.b a0, .i a1, .b a2, .u a3, .i a4, .i a5, .b a6, .u a7, .i a8, .b b0, .i b1, .b b2, .u b3, .i b4, .i b5, .b b6, .u b7, .i b8] 41)
 have BP : Blk _ (w.heap.size + 1) 41 #[.b a0, .i a1, .b a2, .u a3, .i a4, .i a5, .b a6, .u a7, .i a8, .b b0, .i b1, .b b2, .u b3, .i b4, .i b5, .b b6, .u b7, .i b8] := Blk.new1 w (.cells #[.i s0, .b s1, .u s2, .i s3, .b i0, .i i1, .b i2, .u i3, .i i4, .i i5, .b i6, .u i7, .i i8, .slice A n c] 37) _ _
 have HBd := bl_alloc (bl_alloc (Below.refl w.heap.size w) (.cells #[.i s0, .b s1, .u s2, .i s3, .b i0, .i i1, .b i2, .u i3, .i i4, .i i5, .b i6, .u i7, .i i8, .slice A n c] 37)) (.cells #[.b a0, .i a1, .b a2, .u a3, .i a4, .i a5, .b a6, .u a7, .i a8, .b b0, .i b1, .b b2, .u b3, .i b4, .i b5, .b b6, .u b7, .i b8] 41)
 go_enter Tryz.func59, Tryz.ntmps59
 go_wp2_with fail
 replace BT := BT.drew
 replace BP := BP.drew
 replace HBd := bl_drew HBd
 refine start_ (n := 13) (S := fun w' => w'.cell? ⟨w.heap.size, 0, none⟩ = some (.i s0) ∧ w'.cell? ⟨w.heap.size, 1, none⟩ = some (.b s1) ∧ w'.cell? ⟨w.heap.size, 2, none⟩ = some (.u s2) ∧ w'.cell? ⟨w.heap.size, 3, none⟩ = some (.i s3) ∧ w'.cell? ⟨w.heap.size, 4, none⟩ = some (.b i0) ∧ w'.cell? ⟨w.heap.size, 5, none⟩ = some (.i i1) ∧ w'.cell? ⟨w.heap.size, 6, none⟩ = some (.b i2) ∧ w'.cell? ⟨w.heap.size, 7, none⟩ = some (.u i3) ∧ w'.cell? ⟨w.heap.size, 8, none⟩ = some (.i i4) ∧ w'.cell? ⟨w.heap.size, 9, none⟩ = some (.i i5) ∧ w'.cell? ⟨w.heap.size, 10, none⟩ = some (.b i6) ∧ w'.cell? ⟨w.heap.size, 11, none⟩ = some (.u i7) ∧ w'.cell? ⟨w.heap.size, 12, none⟩ = some (.i i8) ∧ w'.cell? ⟨w.heap.size, 13, none⟩ = some (.slice A n c) ∧ w'.cell? ⟨w.heap.size + 1, 0, none⟩ = some (.b a0) ∧ w'.cell? ⟨w.heap.size + 1, 1, none⟩ = some (.i a1) ∧ w'.cell? ⟨w.heap.size + 1, 2, none⟩ = some (.b a2) ∧ w'.cell? ⟨w.heap.size + 1, 3, none⟩ = some (.u a3) ∧ w'.cell? ⟨w.heap.size + 1, 4, none⟩ = some (.i a4) ∧ w'.cell? ⟨w.heap.size + 1, 5, none⟩ = some (.i a5) ∧ w'.cell? ⟨w.heap.size + 1, 6, none⟩ = some (.b a6) ∧ w'.cell? ⟨w.heap.size + 1, 7, none⟩ = some (.u a7) ∧ w'.cell? ⟨w.heap.size + 1, 8, none⟩ = some (.i a8) ∧ w'.cell? ⟨w.heap.size + 1, 9, none⟩ = some (.b b0) ∧ w'.cell? ⟨w.heap.size + 1, 10, none⟩ = some (.i b1) ∧ w'.cell? ⟨w.heap.size + 1, 11, none⟩ = some (.b b2) ∧ w'.cell? ⟨w.heap.size + 1, 12, none⟩ = some (.u b3) ∧ w'.cell? ⟨w.heap.size + 1, 13, none⟩ = some (.i b4) ∧ w'.cell? ⟨w.heap.size + 1, 14, none⟩ = some (.i b5) ∧ w'.cell? ⟨w.heap.size + 1, 15, none⟩ = some (.b b6) ∧ w'.cell? ⟨w.heap.size + 1, 16, none⟩ = some (.u b7) ∧ w'.cell? ⟨w.heap.size + 1, 17, none⟩ = some (.i b8)) (ds := []) (bq 13 0) (by kernel_rfl) rfl rfl ⟨BT.cell 0, BT.cell 1, BT.cell 2, BT.cell 3, BT.cell 4, BT.cell 5, BT.cell 6, BT.cell 7, BT.cell 8, BT.cell 9, BT.cell 10, BT.cell 11, BT.cell 12, BT.cell 13, BP.cell 0, BP.cell 1, BP.cell 2, BP.cell 3, BP.cell 4, BP.cell 5, BP.cell 6, BP.cell 7, BP.cell 8, BP.cell 9, BP.cell 10, BP.cell 11, BP.cell 12, BP.cell 13, BP.cell 14, BP.cell 15, BP.cell 16, BP.cell 17⟩ (fun hHeld => ?_)
 generalize hWW : World.drew _ = w3 at BT BP HBd hHeld ⊢
 clear hWW
 refine tk 0 5 (bq 13 1) ?_ ?_ ?_ ?_ hHeld ?_
 rotate_left 2
 ·rintro w' ⟨s0_, s1_, s2_, s3_, s4_, s5_, s6_, s7_, s8_, s9_, s10_, s11_, s12_, s13_, s14_, s15_, s16_, s17_, s18_, s19_, s20_, s21_, s22_, s23_, s24_, s25_, s26_, s27_, s28_, s29_, s30_, s31_⟩
  go_simp
  with_reducible rfl
 ·simp only [Act.put, pA, pB, pC]
  rfl
 refine pu 1 6 (bq 13 3) ?_ ?_ (fun _ => ?_) ?_ ?_
 rotate_left 2
 ·go_simp
  with_reducible rfl
 ·simp only [Act.put, pA, pB, pC]
  rfl
 refine tk 2 7 (bq 13 7) ?_ ?_ ?_ ?_ hHeld ?_
 rotate_left 2
 ·rintro w' ⟨s0_, s1_, s2_, s3_, s4_, s5_, s6_, s7_, s8_, s9_, s10_, s11_, s12_, s13_, s14_, s15_, s16_, s17_, s18_, s19_, s20_, s21_, s22_, s23_, s24_, s25_, s26_, s27_, s28_, s29_, s30_, s31_⟩
  go_simp
  with_reducible rfl
 ·simp only [Act.put, pA, pB, pC]
  rfl
 refine tk 4 9 (bq 13 23) ?_ ?_ ?_ ?_ hHeld ?_
 rotate_left 2
 ·rintro w' ⟨s0_, s1_, s2_, s3_, s4_, s5_, s6_, s7_, s8_, s9_, s10_, s11_, s12_, s13_, s14_, s15_, s16_, s17_, s18_, s19_, s20_, s21_, s22_, s23_, s24_, s25_, s26_, s27_, s28_, s29_, s30_, s31_⟩
  go_simp
  with_reducible rfl
 ·simp only [Act.put, pA, pB, pC]
  rfl
 refine pu 5 10 (bq 13 55) ?_ ?_ (fun _ => ?_) ?_ ?_
 rotate_left 2
 ·go_simp
  with_reducible rfl
 ·simp only [Act.put, pA, pB, pC]
  rfl
 refine tk 6 11 (bq 13 119) ?_ ?_ ?_ ?_ hHeld ?_
 rotate_left 2
 ·rintro w' ⟨s0_, s1_, s2_, s3_, s4_, s5_, s6_, s7_, s8_, s9_, s10_, s11_, s12_, s13_, s14_, s15_, s16_, s17_, s18_, s19_, s20_, s21_, s22_, s23_, s24_, s25_, s26_, s27_, s28_, s29_, s30_, s31_⟩
  go_simp
  with_reducible rfl
 ·simp only [Act.put, pA, pB, pC]
  rfl
 refine pu 9 14 (bq 13 631) ?_ ?_ (fun _ => ?_) ?_ ?_
 rotate_left 2
 ·go_simp
  with_reducible rfl
 ·simp only [Act.put, pA, pB, pC]
  rfl
 refine on 3 8 (bq 13 639) (fun K hK => ?_)
 refine goes_ Tryz.func77 (by kernel_rfl) rfl #[.agg #[.i s0, .b s1, .u s2, .i s3, .b i0, .i i1, .b i2, .u i3, .i i4, .i i5, .b i6, .u i7, .i i8, .slice A n c], .agg #[.b b0, .i b1, .b b2, .u b3, .i b4, .i b5, .b b6, .u b7, .i b8]] (by first | rfl | go_simp) rfl rfl (by simp only [List.map_toArray, List.map_cons, List.map_nil] <;> rfl) ?_
 with_reducible refine (HB.out _ (hs.on HBd)).mono ?_
 rintro e w4 ⟨rfl, hb⟩
 refine ⟨_, rfl, ?_⟩
 replace BT := BT.call hb
 replace BP := BP.call hb
 replace HBd := bl_trans HBd hb
 refine hK.out _ _ ⟨BT.cell 0, BT.cell 1, BT.cell 2, BT.cell 3, BT.cell 4, BT.cell 5, BT.cell 6, BT.cell 7, BT.cell 8, BT.cell 9, BT.cell 10, BT.cell 11, BT.cell 12, BT.cell 13, BP.cell 0, BP.cell 1, BP.cell 2, BP.cell 3, BP.cell 4, BP.cell 5, BP.cell 6, BP.cell 7, BP.cell 8, BP.cell 9, BP.cell 10, BP.cell 11, BP.cell 12, BP.cell 13, BP.cell 14, BP.cell 15, BP.cell 16, BP.cell 17⟩ (fun hHeld => ?_)
 clear hK K hb
 refine norm_ (a' := ?_) ?_ ?_
 rotate_left
 ·show Act.put _ (some 8) _ = _
  simp only [Act.put, pA, pB, pC]
  rfl
 refine on 7 12 (bq 13 767) (fun K hK => ?_)
 refine goes_ Tryz.func77 (by kernel_rfl) rfl #[.agg #[.i s0, .b s1, .u s2, .i s3, .b i0, .i i1, .b i2, .u i3, .i i4, .i i5, .b i6, .u i7, .i i8, .slice A n c], .agg #[.b a0, .i a1, .b a2, .u a3, .i a4, .i a5, .b a6, .u a7, .i a8]] (by first | rfl | go_simp) rfl rfl (by simp only [List.map_toArray, List.map_cons, List.map_nil] <;> rfl) ?_
 with_reducible refine (HA.out _ (hs.on HBd)).mono ?_
 rintro e w5 ⟨rfl, hb⟩
 refine ⟨_, rfl, ?_⟩
 replace BT := BT.call hb
 replace BP := BP.call hb
 replace HBd := bl_trans HBd hb
 refine hK.out _ _ ⟨BT.cell 0, BT.cell 1, BT.cell 2, BT.cell 3, BT.cell 4, BT.cell 5, BT.cell 6, BT.cell 7, BT.cell 8, BT.cell 9, BT.cell 10, BT.cell 11, BT.cell 12, BT.cell 13, BP.cell 0, BP.cell 1, BP.cell 2, BP.cell 3, BP.cell 4, BP.cell 5, BP.cell 6, BP.cell 7, BP.cell 8, BP.cell 9, BP.cell 10, BP.cell 11, BP.cell 12, BP.cell 13, BP.cell 14, BP.cell 15, BP.cell 16, BP.cell 17⟩ (fun hHeld => ?_)
 clear hK K hb
 refine norm_ (a' := ?_) ?_ ?_
 rotate_left
 ·show Act.put _ (some 12) _ = _
  simp only [Act.put, pA, pB, pC]
  rfl
 refine on 8 13 (bq 13 1023) (fun K hK => ?_)
 refine goes_ Tryz.func76 (by kernel_rfl) rfl #[.agg #[.b q0, .i q1, .b q2, .u q3, .i q4, .i q5, .b q6, .u q7, .i q8], .agg #[.b p0, .i p1, .b p2, .u p3, .i p4, .i p5, .b p6, .u p7, .i p8]] (by first | rfl | go_simp) rfl rfl (by simp only [List.map_toArray, List.map_cons, List.map_nil] <;> rfl) ?_
 with_reducible refine (HS.out _).mono ?_
 rintro e w6 ⟨rfl, hb⟩
 refine ⟨_, rfl, ?_⟩
 replace BT := BT.call hb
 replace BP := BP.call hb
 replace HBd := bl_trans HBd hb
 refine hK.out _ _ ⟨BT.cell 0, BT.cell 1, BT.cell 2, BT.cell 3, BT.cell 4, BT.cell 5, BT.cell 6, BT.cell 7, BT.cell 8, BT.cell 9, BT.cell 10, BT.cell 11, BT.cell 12, BT.cell 13, BP.cell 0, BP.cell 1, BP.cell 2, BP.cell 3, BP.cell 4, BP.cell 5, BP.cell 6, BP.cell 7, BP.cell 8, BP.cell 9, BP.cell 10, BP.cell 11, BP.cell 12, BP.cell 13, BP.cell 14, BP.cell 15, BP.cell 16, BP.cell 17⟩ (fun hHeld => ?_)
 clear hK K hb
 refine norm_ (a' := ?_) ?_ ?_
 rotate_left
 ·show Act.put _ (some 13) _ = _
  simp only [Act.put, pA, pB, pC]
  rfl
 refine on 10 15 (bq 13 2047) (fun K hK => ?_)
 refine goes_ Tryz.func75 (by kernel_rfl) rfl #[.agg #[.b r0, .i r1, .b r2, .u r3, .i r4, .i r5, .b r6, .u r7, .i r8], .agg #[.i 0, .b false, .u 0, .i 0]] (by first | rfl | go_simp) rfl rfl (by simp only [List.map_toArray, List.map_cons, List.map_nil] <;> rfl) ?_
 with_reducible refine (HH.out _).mono ?_
 rintro e w7 ⟨rfl, hb⟩
 refine ⟨_, rfl, ?_⟩
 replace BT := BT.call hb
 replace BP := BP.call hb
 replace HBd := bl_trans HBd hb
 refine hK.out _ _ ⟨BT.cell 0, BT.cell 1, BT.cell 2, BT.cell 3, BT.cell 4, BT.cell 5, BT.cell 6, BT.cell 7, BT.cell 8, BT.cell 9, BT.cell 10, BT.cell 11, BT.cell 12, BT.cell 13, BP.cell 0, BP.cell 1, BP.cell 2, BP.cell 3, BP.cell 4, BP.cell 5, BP.cell 6, BP.cell 7, BP.cell 8, BP.cell 9, BP.cell 10, BP.cell 11, BP.cell 12, BP.cell 13, BP.cell 14, BP.cell 15, BP.cell 16, BP.cell 17⟩ (fun hHeld => ?_)
 clear hK K hb
 refine norm_ (a' := ?_) ?_ ?_
 rotate_left
 ·show Act.put _ (some 15) _ = _
  simp only [Act.put, pA, pB, pC]
  rfl
 refine pu 11 16 (bq 13 4095) ?_ ?_ (fun _ => ?_) ?_ ?_
 rotate_left 2
 ·go_simp
  with_reducible rfl
 ·simp only [Act.put, pA, pB, pC]
  rfl
 refine pu 12 4 (bq 13 8191) ?_ ?_ (fun _ => ?_) ?_ ?_
 rotate_left 2
 ·go_simp
  with_reducible rfl
 ·simp only [Act.put, pA, pB, pC]
  rfl
 refine done_ (by kernel_rfl) ?_
 clear hHeld BT BP
 go_wp2_with fail
 go_ret
 exact ⟨by first | rfl | simp, HBd⟩
end Go.Proofs.YteabdeohhmbclaaGreat.Wk
