import Derived.Test.YteabdeohhmbclaaGreatPvFy
import Derived.Test.YteabdeohhmbclaaGreatIvXy
namespace Go.Proofs.YteabdeohhmbclaaGreat.Wk
open Go.RowKit Go.Proofs.Pl Go.Proofs.YteabdeohhmbclaaGreatW.PrintLast
set_option linter.unusedSimpArgs false
set_option linter.unusedVariables false
theorem endT_wf {s : Num} {i : Iv} {xs : List Slc} (h : WfTb s i xs) : Wf (endT s xs) := by
 unfold endT
 cases hx : xs.getLast? with
 | none => exact h.1
 | some x => exact (h.2.2 x (List.mem_of_getLast? hx)).1
def PvInv (w0 : World) (V : Nat) (X : PvX) (st : List Pr × List Cl) (wr : World) : Prop := ∃ vs vc, BlkV wr V X vs vc ∧ OwnP wr w0.heap.size vs st.1 ∧ OwnC wr w0.heap.size vc st.2 ∧ Below w0.heap.size w0 wr
def lkN (X : PvX) (u : Iv) (k : Nat) : List Pr × List Cl := lookN (outX X) (splP X.f) ([⟨u, u⟩], []) k
theorem lkN_succ (X : PvX) (u : Iv) (k : Nat) : lkN X u (k + 1) = lookS (outX X) (splP X.f) (lkN X u k) := rfl
theorem lkN_inv (X : PvX) {u : Iv} (hu : WfIv u) (k : Nat) : (∀ p ∈ (lkN X u k).1, WfP p) ∧ (lkN X u k).1.length ≤ k + 1 ∧ (lkN X u k).2.length ≤ k := by
 have h := lookN_inv (out := outX X) (spl := splP X.f) WfP (fun p h l hp hs => splP_wf hp hs) ⟨u, u⟩ ⟨hu, hu⟩ k
 exact ⟨h.1, h.2.2.1, h.2.2.2⟩
def PvL1 (w0 : World) (V : Nat) (X : PvX) (u : Iv) (bud : Nat) (v : Value) (wr : World) : Prop := ∃ k : Nat, k ≤ bud ∧ v = .i k ∧ PvInv w0 V X (lkN X u k) wr ∧ ∀ j, j < k → (lkN X u j).1 ≠ []
def PvL2 (w0 : World) (V : Nat) (X : PvX) (st : List Pr × List Cl) (wr : World) : Prop := ∃ ps rest, st.1 = ps ++ rest ∧ PvInv w0 V X (ps, st.2 ++ rest.reverse.map fun p => ⟨p, 1⟩) wr
def lenAt (wr : World) (V : Nat) : Nat := match wr.cell? ⟨V, 0, none⟩ with
 | some (.slice _ n _) => n
 | _ => 0
theorem lenAt_eq {wr : World} {V : Nat} {X : PvX} {A : Option Addr} {n c : Nat} {vc : Value} (h : BlkV wr V X (.slice A n c) vc) : lenAt wr V = n := by
 unfold lenAt
 rw [show wr.cell? ⟨V, 0, none⟩ = some (.slice A n c) from h.cell 0]
set_option maxRecDepth 100000 in
set_option maxHeartbeats 16000000 in
theorem pave_main (s0 : Int) (s1 : Bool) (s2 s3 : Int) (i0 : Bool) (i1 : Int) (i2 : Bool) (i3 i4 i5 : Int) (i6 : Bool) (i7 i8 : Int) (A : Option Addr) (n c : Nat) (xs : List Slc) (t0 : Int) (t1 : Bool) (t2 t3 : Int) (j0 : Bool) (j1 : Int) (j2 : Bool) (j3 j4 j5 : Int) (j6 : Bool) (j7 j8 : Int) (B : Option Addr) (m d : Nat) (ys : List Slc) (g0 : Int) (g1 : Bool) (g2 g3 : Int) (f0 : Int) (f1 : Bool) (f2 f3 : Int) (bud : Nat) (w : World) (hs : SlT w w.heap.size A n xs) (ht : SlT w w.heap.size B m ys) (h1 : mayT ⟨⟨s0, s1, s2, s3⟩, ⟨i0, ⟨i1, i2, i3, i4⟩, ⟨i5, i6, i7, i8⟩⟩, xs⟩ = true) (h2 : mayT ⟨⟨t0, t1, t2, t3⟩, ⟨j0, ⟨j1, j2, j3, j4⟩, ⟨j5, j6, j7, j8⟩⟩, ys⟩ = true) (h3 : decide ((⟨s0, s1, s2, s3⟩ : Num) = ⟨t0, t1, t2, t3⟩) = true) (h4 : decide (endT ⟨s0, s1, s2, s3⟩ xs = endT ⟨t0, t1, t2, t3⟩ ys) = true) (wx : WfTb ⟨s0, s1, s2, s3⟩ ⟨i0, ⟨i1, i2, i3, i4⟩, ⟨i5, i6, i7, i8⟩⟩ xs) (wy : WfTb ⟨t0, t1, t2, t3⟩ ⟨j0, ⟨j1, j2, j3, j4⟩, ⟨j5, j6, j7, j8⟩⟩ ys) (hbud : bud ≤ 2000) :
  Calls Tryz.prog 7 #[.agg #[.i s0, .b s1, .u s2, .i s3, .b i0, .i i1, .b i2, .u i3, .i i4, .i i5, .b i6, .u i7, .i i8, .slice A n c], .agg #[.i t0, .b t1, .u t2, .i t3, .b j0, .i j1, .b j2, .u j3, .i j4, .i j5, .b j6, .u j7, .i j8, .slice B m d], .agg #[.i g0, .b g1, .u g2, .i g3], .agg #[.i f0, .b f1, .u f2, .i f3], .i bud] w fun e w' => ∃ (v : Value) (k : Nat), e = .returned (.tuple #[v, .i k]) ∧ (k ≤ bud ∧ (∀ j, j < k → (lkN ⟨⟨s0, s1, s2, s3⟩, ⟨i0, ⟨i1, i2, i3, i4⟩, ⟨i5, i6, i7, i8⟩⟩, A, n, c, xs, ⟨t0, t1, t2, t3⟩, ⟨j0, ⟨j1, j2, j3, j4⟩, ⟨j5, j6, j7, j8⟩⟩, B, m, d, ys, ⟨g0, g1, g2, g3⟩, ⟨f0, f1, f2, f3⟩⟩ (makeI ⟨s0, s1, s2, s3⟩ (endT ⟨s0, s1, s2, s3⟩ xs)) j).1 ≠ []) ∧ (k < bud → (lkN ⟨⟨s0, s1, s2, s3⟩, ⟨i0, ⟨i1, i2, i3, i4⟩, ⟨i5, i6, i7, i8⟩⟩, A, n, c, xs, ⟨t0, t1, t2, t3⟩, ⟨j0, ⟨j1, j2, j3, j4⟩, ⟨j5, j6, j7, j8⟩⟩, B, m, d, ys, ⟨g0, g1, g2, g3⟩, ⟨f0, f1, f2, f3⟩⟩ (makeI ⟨s0, s1, s2, s3⟩ (endT ⟨s0, s1, s2, s3⟩ xs)) k).1 = []) ∧ OwnC w' w.heap.size v (restC (lkN ⟨⟨s0, s1, s2, s3⟩, ⟨i0, ⟨i1, i2, i3, i4⟩, ⟨i5, i6, i7, i8⟩⟩, A, n, c, xs, ⟨t0, t1, t2, t3⟩, ⟨j0, ⟨j1, j2, j3, j4⟩, ⟨j5, j6, j7, j8⟩⟩, B, m, d, ys, ⟨g0, g1, g2, g3⟩, ⟨f0, f1, f2, f3⟩⟩ (makeI ⟨s0, s1, s2, s3⟩ (endT ⟨s0, s1, s2, s3⟩ xs)) k))) ∧ Below w.heap.size w w' := by
 have hu : WfIv (makeI ⟨s0, s1, s2, s3⟩ (endT ⟨s0, s1, s2, s3⟩ xs)) := make_wf wx.1 (endT_wf wx)
 have hn64 : n ≤ 1000 := by rw [← hs.1]; exact mayT_len h1
 have hm64 : m ≤ 1000 := by rw [← ht.1]; exact mayT_len h2
 have HLX := (fun W h => plast_calls s0 s1 s2 s3 i0 i1 i2 i3 i4 i5 i6 i7 i8 A n c xs W h hn64)
 have HLY := (fun W h => plast_calls t0 t1 t2 t3 j0 j1 j2 j3 j4 j5 j6 j7 j8 B m d ys W h hm64)
 generalize endT ⟨s0, s1, s2, s3⟩ xs = p at HLX h4 hu ⊢
 generalize endT ⟨t0, t1, t2, t3⟩ ys = q at HLY h4 ⊢
 obtain ⟨p0, p1, p2, p3⟩ := p
 obtain ⟨q0, q1, q2, q3⟩ := q
 dsimp only at HLX HLY
 replace HLX := Lib.hid HLX
 replace HLY := Lib.hid HLY
 have HMX := (fun W h => tmay_calls s0 s1 s2 s3 i0 i1 i2 i3 i4 i5 i6 i7 i8 A n c xs W h)
 have HMY := (fun W h => tmay_calls t0 t1 t2 t3 j0 j1 j2 j3 j4 j5 j6 j7 j8 B m d ys W h)
 replace HMX := Lib.hid HMX
 replace HMY := Lib.hid HMY
 obtain ⟨W_, rfl, BX, BY, BG, BF, HBd⟩ := pave_pre s0 s1 s2 s3 i0 i1 i2 i3 i4 i5 i6 i7 i8 A n c t0 t1 t2 t3 j0 j1 j2 j3 j4 j5 j6 j7 j8 B m d g0 g1 g2 g3 f0 f1 f2 f3 w
 rw [h1] at HMX
 rw [h2] at HMY
 have HNE : ∀ W : World, (binOp .neq 32 (.agg #[.i s0, .b s1, .u s2, .i s3]) (.agg #[.i t0, .b t1, .u t2, .i t3])).run Tryz.prog W = .ok (.b false) W := fun W => by rw [run_neNum, h3]; rfl
 have HNF : ∀ W : World, (binOp .neq 32 (.agg #[.i p0, .b p1, .u p2, .i p3]) (.agg #[.i q0, .b q1, .u q2, .i q3])).run Tryz.prog W = .ok (.b false) W := fun W => by rw [run_neNum, h4]; rfl
 have HMK := (fun W => makeI_calls s0 s1 s2 s3 p0 p1 p2 p3 W)
 generalize makeI ⟨s0, s1, s2, s3⟩ ⟨p0, p1, p2, p3⟩ = u at HMK hu ⊢
 obtain ⟨u0, ⟨u1, u2, u3, u4⟩, ⟨u5, u6, u7, u8⟩⟩ := u
 dsimp only at HMK
 replace HMK := Lib.hid HMK
 go_enter Tryz.func7, Tryz.ntmps7
 go_wp2_with fail
 replace BX := BX.drew
 replace BY := BY.drew
 replace BG := BG.drew
 replace BF := BF.drew
 replace HBd := bl_drew HBd
 refine start_ (n := 22) (S := fun w' => Blk w' w.heap.size 37 #[.i s0, .b s1, .u s2, .i s3, .b i0, .i i1, .b i2, .u i3, .i i4, .i i5, .b i6, .u i7, .i i8, .slice A n c] ∧ Blk w' (w.heap.size + 1) 37 #[.i t0, .b t1, .u t2, .i t3, .b j0, .i j1, .b j2, .u j3, .i j4, .i j5, .b j6, .u j7, .i j8, .slice B m d]) (ds := []) (bq 22 0) (by kernel_rfl) rfl rfl ⟨BX, BY⟩ (fun hHeld => ?_)
 generalize hWW : World.drew _ = w3 at BX BY BG BF HBd hHeld ⊢
 clear hWW
 refine ta 0 15 (bq 22 1) rfl (.agg #[.i s0, .b s1, .u s2, .i s3, .b i0, .i i1, .b i2, .u i3, .i i4, .i i5, .b i6, .u i7, .i i8, .slice A n c]) ?_ hHeld (yieldsIf_load_mid (by rfl) 37 (.tmp 5) rfl w.heap.size 0 rfl [.i s0, .b s1, .u s2, .i s3, .b i0, .i i1, .b i2, .u i3, .i i4, .i i5, .b i6, .u i7, .i i8, .slice A n c] _ (fun _ h => Blk.range h.1 0 _ rfl) Tryz.underlying37 rfl (by kernel_rfl)) ?_ ?_
 rotate_left
 ·simp only [Act.put, pA, pB, pC]
  rfl
 refine on 1 16 (bq 22 3) (fun K hK => ?_)
 refine goes_ Tryz.func14 (by kernel_rfl) rfl #[.agg #[.i s0, .b s1, .u s2, .i s3, .b i0, .i i1, .b i2, .u i3, .i i4, .i i5, .b i6, .u i7, .i i8, .slice A n c]] (by first | rfl | go_simp) rfl rfl (by simp only [List.map_toArray, List.map_cons, List.map_nil] <;> rfl) ?_
 with_reducible refine (HMX.out _ (hs.on HBd)).mono ?_
 rintro e w4 ⟨rfl, hb⟩
 refine ⟨_, rfl, ?_⟩
 replace BX := BX.call hb
 replace BY := BY.call hb
 replace BG := BG.call hb
 replace BF := BF.call hb
 replace HBd := bl_trans HBd hb
 refine hK.out _ _ ⟨BX, BY⟩ (fun hHeld => ?_)
 clear hK K hb
 refine norm_ (a' := ?_) ?_ ?_
 rotate_left
 ·show Act.put _ (some 16) _ = _
  simp only [Act.put, pA, pB, pC]
  rfl
 refine pu 2 17 (bq 22 7) ?_ ?_ (fun _ => ?_) ?_ ?_
 rotate_left 2
 ·go_simp
  with_reducible rfl
 ·simp only [Act.put, pA, pB, pC]
  rfl
 refine pu 3 18 (bq 22 15) ?_ ?_ (fun _ => ?_) ?_ ?_
 rotate_left 2
 ·go_simp
  with_reducible rfl
 ·simp only [Act.put, pA, pB, pC]
  rfl
 refine ta 4 19 (bq 22 31) rfl (.agg #[.i t0, .b t1, .u t2, .i t3, .b j0, .i j1, .b j2, .u j3, .i j4, .i j5, .b j6, .u j7, .i j8, .slice B m d]) ?_ hHeld (yieldsIf_load_mid (by rfl) 37 (.tmp 6) rfl (w.heap.size + 1) 0 rfl [.i t0, .b t1, .u t2, .i t3, .b j0, .i j1, .b j2, .u j3, .i j4, .i j5, .b j6, .u j7, .i j8, .slice B m d] _ (fun _ h => Blk.range h.2 0 _ rfl) Tryz.underlying37 rfl (by kernel_rfl)) ?_ ?_
 rotate_left
 ·simp only [Act.put, pA, pB, pC]
  rfl
 refine on 5 20 (bq 22 63) (fun K hK => ?_)
 refine goes_ Tryz.func14 (by kernel_rfl) rfl #[.agg #[.i t0, .b t1, .u t2, .i t3, .b j0, .i j1, .b j2, .u j3, .i j4, .i j5, .b j6, .u j7, .i j8, .slice B m d]] (by first | rfl | go_simp) rfl rfl (by simp only [List.map_toArray, List.map_cons, List.map_nil] <;> rfl) ?_
 with_reducible refine (HMY.out _ (ht.on HBd)).mono ?_
 rintro e w5 ⟨rfl, hb⟩
 refine ⟨_, rfl, ?_⟩
 replace BX := BX.call hb
 replace BY := BY.call hb
 replace BG := BG.call hb
 replace BF := BF.call hb
 replace HBd := bl_trans HBd hb
 refine hK.out _ _ ⟨BX, BY⟩ (fun hHeld => ?_)
 clear hK K hb
 refine norm_ (a' := ?_) ?_ ?_
 rotate_left
 ·show Act.put _ (some 20) _ = _
  simp only [Act.put, pA, pB, pC]
  rfl
 refine pu 6 21 (bq 22 127) ?_ ?_ (fun _ => ?_) ?_ ?_
 rotate_left 2
 ·go_simp
  with_reducible rfl
 ·simp only [Act.put, pA, pB, pC]
  rfl
 refine pu 7 22 (bq 22 255) ?_ ?_ (fun _ => ?_) ?_ ?_
 rotate_left 2
 ·go_simp
  with_reducible rfl
 ·simp only [Act.put, pA, pB, pC]
  rfl
 refine pu 8 23 (bq 22 511) ?_ ?_ (fun _ => ?_) ?_ ?_
 rotate_left 2
 ·go_simp
  with_reducible rfl
 ·simp only [Act.put, pA, pB, pC]
  rfl
 refine pu 9 24 (bq 22 1023) ?_ ?_ (fun _ => ?_) ?_ ?_
 rotate_left 2
 ·go_simp
  with_reducible rfl
 ·simp only [Act.put, pA, pB, pC]
  rfl
 refine ta 10 25 (bq 22 2047) rfl (.agg #[.i s0, .b s1, .u s2, .i s3]) ?_ hHeld (yieldsIf_load_mid (by rfl) 32 (.tmp 24) rfl w.heap.size 0 rfl [.i s0, .b s1, .u s2, .i s3] _ (fun _ h => Blk.range h.1 0 _ rfl) Tryz.underlying32 rfl (by kernel_rfl)) ?_ ?_
 rotate_left
 ·simp only [Act.put, pA, pB, pC]
  rfl
 refine pu 11 26 (bq 22 4095) ?_ ?_ (fun _ => ?_) ?_ ?_
 rotate_left 2
 ·go_simp
  with_reducible rfl
 ·simp only [Act.put, pA, pB, pC]
  rfl
 refine ta 12 27 (bq 22 8191) rfl (.agg #[.i t0, .b t1, .u t2, .i t3]) ?_ hHeld (yieldsIf_load_mid (by rfl) 32 (.tmp 26) rfl (w.heap.size + 1) 0 rfl [.i t0, .b t1, .u t2, .i t3] _ (fun _ h => Blk.range h.2 0 _ rfl) Tryz.underlying32 rfl (by kernel_rfl)) ?_ ?_
 rotate_left
 ·simp only [Act.put, pA, pB, pC]
  rfl
 refine pu 13 28 (bq 22 16383) ?_ ?_ (fun _ => ?_) ?_ ?_
 rotate_left 2
 ·go_simp
  with_reducible rfl
 ·simp only [Act.put, pA, pB, pC]
  rfl
 refine pu 14 29 (bq 22 32767) ?_ ?_ (fun _ => ?_) ?_ ?_
 rotate_left 2
 ·go_simp
  with_reducible rfl
 ·simp only [Act.put, pA, pB, pC]
  rfl
 refine pu 15 30 (bq 22 65535) ?_ ?_ (fun _ => ?_) ?_ ?_
 rotate_left 2
 ·go_simp
  with_reducible rfl
 ·simp only [Act.put, pA, pB, pC]
  rfl
 refine ta 16 31 (bq 22 131071) rfl (.agg #[.i s0, .b s1, .u s2, .i s3, .b i0, .i i1, .b i2, .u i3, .i i4, .i i5, .b i6, .u i7, .i i8, .slice A n c]) ?_ hHeld (yieldsIf_load_mid (by rfl) 37 (.tmp 5) rfl w.heap.size 0 rfl [.i s0, .b s1, .u s2, .i s3, .b i0, .i i1, .b i2, .u i3, .i i4, .i i5, .b i6, .u i7, .i i8, .slice A n c] _ (fun _ h => Blk.range h.1 0 _ rfl) Tryz.underlying37 rfl (by kernel_rfl)) ?_ ?_
 rotate_left
 ·simp only [Act.put, pA, pB, pC]
  rfl
 refine ta 18 33 (bq 22 393215) rfl (.agg #[.i t0, .b t1, .u t2, .i t3, .b j0, .i j1, .b j2, .u j3, .i j4, .i j5, .b j6, .u j7, .i j8, .slice B m d]) ?_ hHeld (yieldsIf_load_mid (by rfl) 37 (.tmp 6) rfl (w.heap.size + 1) 0 rfl [.i t0, .b t1, .u t2, .i t3, .b j0, .i j1, .b j2, .u j3, .i j4, .i j5, .b j6, .u j7, .i j8, .slice B m d] _ (fun _ h => Blk.range h.2 0 _ rfl) Tryz.underlying37 rfl (by kernel_rfl)) ?_ ?_
 rotate_left
 ·simp only [Act.put, pA, pB, pC]
  rfl
 refine on 17 32 (bq 22 524287) (fun K hK => ?_)
 refine goes_ Tryz.func15 (by kernel_rfl) rfl #[.agg #[.i s0, .b s1, .u s2, .i s3, .b i0, .i i1, .b i2, .u i3, .i i4, .i i5, .b i6, .u i7, .i i8, .slice A n c]] (by first | rfl | go_simp) rfl rfl (by simp only [List.map_toArray, List.map_cons, List.map_nil] <;> rfl) ?_
 with_reducible refine (HLX.out _ (hs.on HBd)).mono ?_
 rintro e w6 ⟨rfl, hb⟩
 refine ⟨_, rfl, ?_⟩
 replace BX := BX.call hb
 replace BY := BY.call hb
 replace BG := BG.call hb
 replace BF := BF.call hb
 replace HBd := bl_trans HBd hb
 refine hK.out _ _ ⟨BX, BY⟩ (fun hHeld => ?_)
 clear hK K hb
 refine norm_ (a' := ?_) ?_ ?_
 rotate_left
 ·show Act.put _ (some 32) _ = _
  simp only [Act.put, pA, pB, pC]
  rfl
 refine on 19 34 (bq 22 1048575) (fun K hK => ?_)
 refine goes_ Tryz.func15 (by kernel_rfl) rfl #[.agg #[.i t0, .b t1, .u t2, .i t3, .b j0, .i j1, .b j2, .u j3, .i j4, .i j5, .b j6, .u j7, .i j8, .slice B m d]] (by first | rfl | go_simp) rfl rfl (by simp only [List.map_toArray, List.map_cons, List.map_nil] <;> rfl) ?_
 with_reducible refine (HLY.out _ (ht.on HBd)).mono ?_
 rintro e w7 ⟨rfl, hb⟩
 refine ⟨_, rfl, ?_⟩
 replace BX := BX.call hb
 replace BY := BY.call hb
 replace BG := BG.call hb
 replace BF := BF.call hb
 replace HBd := bl_trans HBd hb
 refine hK.out _ _ ⟨BX, BY⟩ (fun hHeld => ?_)
 clear hK K hb
 refine norm_ (a' := ?_) ?_ ?_
 rotate_left
 ·show Act.put _ (some 34) _ = _
  simp only [Act.put, pA, pB, pC]
  rfl
 refine pu 20 35 (bq 22 2097151) ?_ ?_ (fun _ => ?_) ?_ ?_
 rotate_left 2
 ·go_simp
  with_reducible rfl
 ·simp only [Act.put, pA, pB, pC]
  rfl
 refine pu 21 36 (bq 22 4194303) ?_ ?_ (fun _ => ?_) ?_ ?_
 rotate_left 2
 ·go_simp
  with_reducible rfl
 ·simp only [Act.put, pA, pB, pC]
  rfl
 refine done_ (by kernel_rfl) ?_
 clear hHeld
 go_wp2_with fail
 replace BX := BX.drew
 replace BY := BY.drew
 replace BG := BG.drew
 replace BF := BF.drew
 replace HBd := bl_drew HBd
 refine start_ (n := 7) (S := fun w' => Blk w' w.heap.size 37 #[.i s0, .b s1, .u s2, .i s3, .b i0, .i i1, .b i2, .u i3, .i i4, .i i5, .b i6, .u i7, .i i8, .slice A n c] ∧ Blk w' (w.heap.size + 1) 37 #[.i t0, .b t1, .u t2, .i t3, .b j0, .i j1, .b j2, .u j3, .i j4, .i j5, .b j6, .u j7, .i j8, .slice B m d]) (ds := [6]) (bq 7 0) (by kernel_rfl) rfl rfl ⟨BX, BY⟩ (fun hHeld => ?_)
 generalize hWW : World.drew _ = w3 at BX BY BG BF HBd hHeld ⊢
 clear hWW
 refine pu 0 37 (bq 7 1) ?_ ?_ (fun _ => ?_) ?_ ?_
 rotate_left 2
 ·go_simp
  with_reducible rfl
 ·simp only [Act.put, pA, pB, pC]
  rfl
 refine ta 1 38 (bq 7 3) rfl (.agg #[.i s0, .b s1, .u s2, .i s3]) ?_ hHeld (yieldsIf_load_mid (by rfl) 32 (.tmp 37) rfl w.heap.size 0 rfl [.i s0, .b s1, .u s2, .i s3] _ (fun _ h => Blk.range h.1 0 _ rfl) Tryz.underlying32 rfl (by kernel_rfl)) ?_ ?_
 rotate_left
 ·simp only [Act.put, pA, pB, pC]
  rfl
 refine ta 2 39 (bq 7 7) rfl (.agg #[.i s0, .b s1, .u s2, .i s3, .b i0, .i i1, .b i2, .u i3, .i i4, .i i5, .b i6, .u i7, .i i8, .slice A n c]) ?_ hHeld (yieldsIf_load_mid (by rfl) 37 (.tmp 5) rfl w.heap.size 0 rfl [.i s0, .b s1, .u s2, .i s3, .b i0, .i i1, .b i2, .u i3, .i i4, .i i5, .b i6, .u i7, .i i8, .slice A n c] _ (fun _ h => Blk.range h.1 0 _ rfl) Tryz.underlying37 rfl (by kernel_rfl)) ?_ ?_
 rotate_left
 ·simp only [Act.put, pA, pB, pC]
  rfl
 refine join_ (σ := Nat) 1 (bq 7 63) (fun s => [(40, .agg #[.i p0, .b p1, .u p2, .i p3]), (41, .agg #[.b u0, .i u1, .b u2, .u u3, .i u4, .i u5, .b u6, .u u7, .i u8]), (12, .pointer (some ⟨s, 0, none⟩))]) (fun s w' => (Blk w' w.heap.size 37 #[.i s0, .b s1, .u s2, .i s3, .b i0, .i i1, .b i2, .u i3, .i i4, .i i5, .b i6, .u i7, .i i8, .slice A n c] ∧ Blk w' (w.heap.size + 1) 37 #[.i t0, .b t1, .u t2, .i t3, .b j0, .i j1, .b j2, .u j3, .i j4, .i j5, .b j6, .u j7, .i j8, .slice B m d] ∧ Blk w' (w.heap.size + 2) 32 #[.i g0, .b g1, .u g2, .i g3] ∧ Blk w' (w.heap.size + 3) 32 #[.i f0, .b f1, .u f2, .i f3] ∧ Blk w' s 34 #[.b false, .i 0, .b false, .u 0, .i 0, .i 0, .b false, .u 0, .i 0]) ∧ w.heap.size + 3 < s ∧ Below w.heap.size w w') ?_ (fun hJ => ?_)
 ·skip
  rintro ga w8 ⟨⟨BX, BY, BG, BF, BA⟩, hga, HBd⟩
  clear hHeld
  refine norm_ (a' := ?_) ?_ ?_
  rotate_left
  ·simp only [putAll, Act.put, pA, pB, pC]
   rfl
  obtain ⟨⟨z0, z1, z2, z3, z4, z5, z6, z7, z8⟩, ⟨k0, k1, k2, k3, k4, k5, k6, k7, k8⟩⟩ := BA.c9
  obtain ⟨W9, hW9, BA9, hk9, hL9, hs9⟩ := put9 BA (.b u0) (.i u1) (.b u2) (.u u3) (.i u4) (.i u5) (.b u6) (.u u7) (.i u8)
  refine last_ (i := 6) (N := none) (bq 7 127) rfl rfl (by kernel_rfl) (by decide) (fun K hK => ?_)
  refine skip_ (w1 := ?_) (by rfl) rfl ?_ ?_
  rotate_left
  ·go_simp
   rfl
  refine hK.out _ _ ?_
  clear hK K
  refine done_ (by kernel_rfl) ?_
  replace BX := hk9 _ _ _ (by omega) BX
  replace BY := hk9 _ _ _ (by omega) BY
  replace BG := hk9 _ _ _ (by omega) BG
  replace BF := hk9 _ _ _ (by omega) BF
  replace HBd := hL9 w HBd (by omega)
  clear z0 z1 z2 z3 z4 z5 z6 z7 z8 k0 k1 k2 k3 k4 k5 k6 k7 k8 hW9 hk9 hL9 BA
  go_wp2_with (first
   | (refine wpList_load_mid rfl 37 (.tmp 5) rfl w.heap.size 0 rfl [.i s0, .b s1, .u s2, .i s3, .b i0, .i i1, .b i2, .u i3, .i i4, .i i5, .b i6, .u i7, .i i8, .slice A n c] _ (BX.range 0 _ rfl) Tryz.underlying37 rfl (by kernel_rfl) ?_)
   | (refine wpList_load_mid rfl 37 (.tmp 6) rfl (w.heap.size + 1) 0 rfl [.i t0, .b t1, .u t2, .i t3, .b j0, .i j1, .b j2, .u j3, .i j4, .i j5, .b j6, .u j7, .i j8, .slice B m d] _ (BY.range 0 _ rfl) Tryz.underlying37 rfl (by kernel_rfl) ?_)
   | (refine wpList_load_mid rfl 32 (.tmp 7) rfl (w.heap.size + 2) 0 rfl [.i g0, .b g1, .u g2, .i g3] _ (BG.range 0 _ rfl) Tryz.underlying32 rfl (by kernel_rfl) ?_)
   | (refine wpList_load_mid rfl 32 (.tmp 8) rfl (w.heap.size + 3) 0 rfl [.i f0, .b f1, .u f2, .i f3] _ (BF.range 0 _ rfl) Tryz.underlying32 rfl (by kernel_rfl) ?_))
  have BV : BlkV (W9.alloc (.cells #[.slice none 0 0, .i s0, .b s1, .u s2, .i s3, .b i0, .i i1, .b i2, .u i3, .i i4, .i i5, .b i6, .u i7, .i i8, .slice A n c, .i t0, .b t1, .u t2, .i t3, .b j0, .i j1, .b j2, .u j3, .i j4, .i j5, .b j6, .u j7, .i j8, .slice B m d, .i g0, .b g1, .u g2, .i g3, .i f0, .b f1, .u f2, .i f3, .slice none 0 0] 57)) w8.heap.size ⟨⟨s0, s1, s2, s3⟩, ⟨i0, ⟨i1, i2, i3, i4⟩, ⟨i5, i6, i7, i8⟩⟩, A, n, c, xs, ⟨t0, t1, t2, t3⟩, ⟨j0, ⟨j1, j2, j3, j4⟩, ⟨j5, j6, j7, j8⟩⟩, B, m, d, ys, ⟨g0, g1, g2, g3⟩, ⟨f0, f1, f2, f3⟩⟩ (.slice none 0 0) (.slice none 0 0) := (by have h := Blk.new W9 57 #[.slice none 0 0, .i s0, .b s1, .u s2, .i s3, .b i0, .i i1, .b i2, .u i3, .i i4, .i i5, .b i6, .u i7, .i i8, .slice A n c, .i t0, .b t1, .u t2, .i t3, .b j0, .i j1, .b j2, .u j3, .i j4, .i j5, .b j6, .u j7, .i j8, .slice B m d, .i g0, .b g1, .u g2, .i g3, .i f0, .b f1, .u f2, .i f3, .slice none 0 0]; rw [hs9] at h; exact h)
  replace BA9 := BA9.alloc (.cells #[.slice none 0 0, .i s0, .b s1, .u s2, .i s3, .b i0, .i i1, .b i2, .u i3, .i i4, .i i5, .b i6, .u i7, .i i8, .slice A n c, .i t0, .b t1, .u t2, .i t3, .b j0, .i j1, .b j2, .u j3, .i j4, .i j5, .b j6, .u j7, .i j8, .slice B m d, .i g0, .b g1, .u g2, .i g3, .i f0, .b f1, .u f2, .i f3, .slice none 0 0] 57)
  replace HBd := bl_alloc HBd (.cells #[.slice none 0 0, .i s0, .b s1, .u s2, .i s3, .b i0, .i i1, .b i2, .u i3, .i i4, .i i5, .b i6, .u i7, .i i8, .slice A n c, .i t0, .b t1, .u t2, .i t3, .b j0, .i j1, .b j2, .u j3, .i j4, .i j5, .b j6, .u j7, .i j8, .slice B m d, .i g0, .b g1, .u g2, .i g3, .i f0, .b f1, .u f2, .i f3, .slice none 0 0] 57)
  have gV : w.heap.size + 3 < w8.heap.size := (by have := BF.lt; omega)
  clear BX BY BG BF hs9
  replace BV : BlkV _ w8.heap.size ⟨⟨s0, s1, s2, s3⟩, ⟨i0, ⟨i1, i2, i3, i4⟩, ⟨i5, i6, i7, i8⟩⟩, A, n, c, xs, ⟨t0, t1, t2, t3⟩, ⟨j0, ⟨j1, j2, j3, j4⟩, ⟨j5, j6, j7, j8⟩⟩, B, m, d, ys, ⟨g0, g1, g2, g3⟩, ⟨f0, f1, f2, f3⟩⟩ (.slice none 0 0) (.slice none 0 0) := BV.drew
  have BA := BA9.drew
  replace HBd := bl_drew HBd
  clear BA9
  refine start_ (n := 8) (S := fun w' => Blk w' ga 34 #[.b u0, .i u1, .b u2, .u u3, .i u4, .i u5, .b u6, .u u7, .i u8]) (ds := [7]) (bq 8 0) (by kernel_rfl) rfl rfl BA (fun hHeld => ?_)
  generalize hWW : World.drew _ = w15 at BV BA HBd hHeld ⊢
  clear hWW
  refine pu 0 48 (bq 8 1) ?_ ?_ (fun _ => ?_) ?_ ?_
  rotate_left 2
  ·go_simp
   with_reducible rfl
  ·simp only [Act.put, pA, pB, pC]
   rfl
  refine pu 1 49 (bq 8 3) ?_ ?_ (fun _ => ?_) ?_ ?_
  rotate_left 2
  ·go_simp
   with_reducible rfl
  ·simp only [Act.put, pA, pB, pC]
   rfl
  refine pu 2 50 (bq 8 7) ?_ ?_ (fun _ => ?_) ?_ ?_
  rotate_left 2
  ·go_simp
   with_reducible rfl
  ·simp only [Act.put, pA, pB, pC]
   rfl
  refine ta 3 51 (bq 8 15) rfl (.agg #[.b u0, .i u1, .b u2, .u u3, .i u4, .i u5, .b u6, .u u7, .i u8]) ?_ hHeld (yieldsIf_load_mid (by rfl) 34 (.tmp 12) rfl ga 0 rfl [.b u0, .i u1, .b u2, .u u3, .i u4, .i u5, .b u6, .u u7, .i u8] _ (fun _ h => Blk.range h 0 _ rfl) Tryz.underlying34 rfl (by kernel_rfl)) ?_ ?_
  rotate_left
  ·simp only [Act.put, pA, pB, pC]
   rfl
  refine ta 4 52 (bq 8 31) rfl (.agg #[.b u0, .i u1, .b u2, .u u3, .i u4, .i u5, .b u6, .u u7, .i u8]) ?_ hHeld (yieldsIf_load_mid (by rfl) 34 (.tmp 12) rfl ga 0 rfl [.b u0, .i u1, .b u2, .u u3, .i u4, .i u5, .b u6, .u u7, .i u8] _ (fun _ h => Blk.range h 0 _ rfl) Tryz.underlying34 rfl (by kernel_rfl)) ?_ ?_
  rotate_left
  ·simp only [Act.put, pA, pB, pC]
   rfl
  refine pu 5 53 (bq 8 63) ?_ ?_ (fun _ => ?_) ?_ ?_
  rotate_left 2
  ·go_simp
   with_reducible rfl
  ·simp only [Act.put, pA, pB, pC]
   rfl
  refine on 6 54 (bq 8 127) (fun K hK => ?_)
  refine value_ (v := ?_) (w1 := ?_) (by rfl) rfl ?_ ?_
  rotate_left 2
  ·go_simp
   first | rfl | (constructor <;> rfl)
  have BS : Blk _ w15.heap.size 41 (List.flatMap prCells [⟨⟨u0, ⟨u1, u2, u3, u4⟩, ⟨u5, u6, u7, u8⟩⟩, ⟨u0, ⟨u1, u2, u3, u4⟩, ⟨u5, u6, u7, u8⟩⟩⟩]).toArray := Blk.new w15 41 #[.b u0, .i u1, .b u2, .u u3, .i u4, .i u5, .b u6, .u u7, .i u8, .b u0, .i u1, .b u2, .u u3, .i u4, .i u5, .b u6, .u u7, .i u8]
  have HS2 := SlG.lit prCells_length (by decide) [⟨⟨u0, ⟨u1, u2, u3, u4⟩, ⟨u5, u6, u7, u8⟩⟩, ⟨u0, ⟨u1, u2, u3, u4⟩, ⟨u5, u6, u7, u8⟩⟩⟩] (n := 1) rfl BS BS.lt
  replace BV : BlkV _ w8.heap.size ⟨⟨s0, s1, s2, s3⟩, ⟨i0, ⟨i1, i2, i3, i4⟩, ⟨i5, i6, i7, i8⟩⟩, A, n, c, xs, ⟨t0, t1, t2, t3⟩, ⟨j0, ⟨j1, j2, j3, j4⟩, ⟨j5, j6, j7, j8⟩⟩, B, m, d, ys, ⟨g0, g1, g2, g3⟩, ⟨f0, f1, f2, f3⟩⟩ (.slice none 0 0) (.slice none 0 0) := BV.alloc (.cells #[.b u0, .i u1, .b u2, .u u3, .i u4, .i u5, .b u6, .u u7, .i u8, .b u0, .i u1, .b u2, .u u3, .i u4, .i u5, .b u6, .u u7, .i u8] 41)
  replace BA := BA.alloc (.cells #[.b u0, .i u1, .b u2, .u u3, .i u4, .i u5, .b u6, .u u7, .i u8, .b u0, .i u1, .b u2, .u u3, .i u4, .i u5, .b u6, .u u7, .i u8] 41)
  replace HBd := bl_alloc HBd (.cells #[.b u0, .i u1, .b u2, .u u3, .i u4, .i u5, .b u6, .u u7, .i u8, .b u0, .i u1, .b u2, .u u3, .i u4, .i u5, .b u6, .u u7, .i u8] 41)
  refine hK.out _ _ BA (fun hHeld => ?_)
  clear hK K
  refine norm_ (a' := ?_) ?_ ?_
  rotate_left
  ·show Act.put _ (some 54) _ = _
   simp only [Act.put, pA, pB, pC]
   rfl
  refine last_ (i := 7) (N := some 55) (bq 8 255) rfl rfl (by kernel_rfl) (by decide) (fun K hK => ?_)
  refine goes_ Tryz.func17 (by kernel_rfl) rfl #[.pointer (some ⟨w8.heap.size, 0, none⟩), .slice (some ⟨w15.heap.size, 0, none⟩) 1 1] (by first | rfl | go_simp) rfl rfl (by simp only [List.map_toArray, List.map_cons, List.map_nil] <;> rfl) ?_
  with_reducible refine (push_calls w8.heap.size (pvRest ⟨⟨s0, s1, s2, s3⟩, ⟨i0, ⟨i1, i2, i3, i4⟩, ⟨i5, i6, i7, i8⟩⟩, A, n, c, xs, ⟨t0, t1, t2, t3⟩, ⟨j0, ⟨j1, j2, j3, j4⟩, ⟨j5, j6, j7, j8⟩⟩, B, m, d, ys, ⟨g0, g1, g2, g3⟩, ⟨f0, f1, f2, f3⟩⟩ (.slice none 0 0)) 57 (by decide) w.heap.size (.slice none 0 0) [] [⟨⟨u0, ⟨u1, u2, u3, u4⟩, ⟨u5, u6, u7, u8⟩⟩, ⟨u0, ⟨u1, u2, u3, u4⟩, ⟨u5, u6, u7, u8⟩⟩⟩] ⟨w15.heap.size, 0, none⟩ 1 1 _ BV (OwnG.nil _ _) HBd.size HS2 (by decide)).mono ?_
  rintro e w16 ⟨⟨u_, rfl⟩, v1, BV1, OP1, ON1⟩
  refine ⟨_, rfl, ?_⟩
  refine hK.out _ _ ?_
  clear hK K
  refine norm_ (a' := ?_) ?_ ?_
  rotate_left
  ·show Act.put _ (some 55) _ = _
   simp only [Act.put, pA, pB, pC]
   rfl
  refine done_ (by kernel_rfl) ?_
  clear hHeld
  go_wp2_with fail
  have HB16 : Below w.heap.size w w16 := HBd.trans (ON1.below HBd.size (by rintro k (rfl | h); exact Nat.le_of_lt (by omega); cases h))
  have hI0 : PvL1 w w8.heap.size ⟨⟨s0, s1, s2, s3⟩, ⟨i0, ⟨i1, i2, i3, i4⟩, ⟨i5, i6, i7, i8⟩⟩, A, n, c, xs, ⟨t0, t1, t2, t3⟩, ⟨j0, ⟨j1, j2, j3, j4⟩, ⟨j5, j6, j7, j8⟩⟩, B, m, d, ys, ⟨g0, g1, g2, g3⟩, ⟨f0, f1, f2, f3⟩⟩ ⟨u0, ⟨u1, u2, u3, u4⟩, ⟨u5, u6, u7, u8⟩⟩ bud (.i 0) w16 := ⟨0, Nat.zero_le _, rfl, ⟨v1, .slice none 0 0, BV1, OP1, OwnG.nil _ _, HB16⟩, fun j h => absurd h (Nat.not_lt_zero j)⟩
  clear BV OP1 BV1 ON1 HB16 HBd BA HS2 BS
  go_loopw [14] (fun v wr => PvL1 w w8.heap.size ⟨⟨s0, s1, s2, s3⟩, ⟨i0, ⟨i1, i2, i3, i4⟩, ⟨i5, i6, i7, i8⟩⟩, A, n, c, xs, ⟨t0, t1, t2, t3⟩, ⟨j0, ⟨j1, j2, j3, j4⟩, ⟨j5, j6, j7, j8⟩⟩, B, m, d, ys, ⟨g0, g1, g2, g3⟩, ⟨f0, f1, f2, f3⟩⟩ ⟨u0, ⟨u1, u2, u3, u4⟩, ⟨u5, u6, u7, u8⟩⟩ bud v wr) (fun v _ => bud - (intOf v).toNat)
  case atStart => exact hI0
  case round =>
   obtain ⟨k, hk, rfl, ⟨vs, vc, BV, OP, OC, HB⟩, hne⟩ := hrel
   have hi := lkN_inv ⟨⟨s0, s1, s2, s3⟩, ⟨i0, ⟨i1, i2, i3, i4⟩, ⟨i5, i6, i7, i8⟩⟩, A, n, c, xs, ⟨t0, t1, t2, t3⟩, ⟨j0, ⟨j1, j2, j3, j4⟩, ⟨j5, j6, j7, j8⟩⟩, B, m, d, ys, ⟨g0, g1, g2, g3⟩, ⟨f0, f1, f2, f3⟩⟩ hu k
   have hsucc := lkN_succ ⟨⟨s0, s1, s2, s3⟩, ⟨i0, ⟨i1, i2, i3, i4⟩, ⟨i5, i6, i7, i8⟩⟩, A, n, c, xs, ⟨t0, t1, t2, t3⟩, ⟨j0, ⟨j1, j2, j3, j4⟩, ⟨j5, j6, j7, j8⟩⟩, B, m, d, ys, ⟨g0, g1, g2, g3⟩, ⟨f0, f1, f2, f3⟩⟩ ⟨u0, ⟨u1, u2, u3, u4⟩, ⟨u5, u6, u7, u8⟩⟩ k
   have hPv : PvOk wr w.heap.size ⟨⟨s0, s1, s2, s3⟩, ⟨i0, ⟨i1, i2, i3, i4⟩, ⟨i5, i6, i7, i8⟩⟩, A, n, c, xs, ⟨t0, t1, t2, t3⟩, ⟨j0, ⟨j1, j2, j3, j4⟩, ⟨j5, j6, j7, j8⟩⟩, B, m, d, ys, ⟨g0, g1, g2, g3⟩, ⟨f0, f1, f2, f3⟩⟩ := PvOk.below ⟨hs, ht, wx, wy⟩ HB
   have hbase := HB.size
   have BVz := Lib.hid BV
   replace OP := Lib.hid OP
   replace OC := Lib.hid OC
   replace HB := Lib.hid HB
   replace hne := Lib.hid hne
   generalize hst : lkN ⟨⟨s0, s1, s2, s3⟩, ⟨i0, ⟨i1, i2, i3, i4⟩, ⟨i5, i6, i7, i8⟩⟩, A, n, c, xs, ⟨t0, t1, t2, t3⟩, ⟨j0, ⟨j1, j2, j3, j4⟩, ⟨j5, j6, j7, j8⟩⟩, B, m, d, ys, ⟨g0, g1, g2, g3⟩, ⟨f0, f1, f2, f3⟩⟩ ⟨u0, ⟨u1, u2, u3, u4⟩, ⟨u5, u6, u7, u8⟩⟩ k = st at OP OC hi hsucc
   obtain ⟨ps0, cs⟩ := st
   try dsimp only at hi
   rcases List.eq_nil_or_concat ps0 with rfl | ⟨ps, p, rfl⟩
   ·obtain ⟨A0, c0, rfl⟩ := OP.out.form
    have k0 : wr.cell? ⟨w8.heap.size, 0, none⟩ = some (.slice A0 0 c0) := BV.cell 0
    have hfin : Hid (k < bud → (lkN ⟨⟨s0, s1, s2, s3⟩, ⟨i0, ⟨i1, i2, i3, i4⟩, ⟨i5, i6, i7, i8⟩⟩, A, n, c, xs, ⟨t0, t1, t2, t3⟩, ⟨j0, ⟨j1, j2, j3, j4⟩, ⟨j5, j6, j7, j8⟩⟩, B, m, d, ys, ⟨g0, g1, g2, g3⟩, ⟨f0, f1, f2, f3⟩⟩ ⟨u0, ⟨u1, u2, u3, u4⟩, ⟨u5, u6, u7, u8⟩⟩ k).1 = []) := fun _ => by rw [hst]
    clear BV hi hsucc
    replace hst := Lib.hid hst
    go_wp2_with fail
    have hI2 : PvL2 w w8.heap.size ⟨⟨s0, s1, s2, s3⟩, ⟨i0, ⟨i1, i2, i3, i4⟩, ⟨i5, i6, i7, i8⟩⟩, A, n, c, xs, ⟨t0, t1, t2, t3⟩, ⟨j0, ⟨j1, j2, j3, j4⟩, ⟨j5, j6, j7, j8⟩⟩, B, m, d, ys, ⟨g0, g1, g2, g3⟩, ⟨f0, f1, f2, f3⟩⟩ (lkN ⟨⟨s0, s1, s2, s3⟩, ⟨i0, ⟨i1, i2, i3, i4⟩, ⟨i5, i6, i7, i8⟩⟩, A, n, c, xs, ⟨t0, t1, t2, t3⟩, ⟨j0, ⟨j1, j2, j3, j4⟩, ⟨j5, j6, j7, j8⟩⟩, B, m, d, ys, ⟨g0, g1, g2, g3⟩, ⟨f0, f1, f2, f3⟩⟩ ⟨u0, ⟨u1, u2, u3, u4⟩, ⟨u5, u6, u7, u8⟩⟩ k) wr := ⟨(lkN ⟨⟨s0, s1, s2, s3⟩, ⟨i0, ⟨i1, i2, i3, i4⟩, ⟨i5, i6, i7, i8⟩⟩, A, n, c, xs, ⟨t0, t1, t2, t3⟩, ⟨j0, ⟨j1, j2, j3, j4⟩, ⟨j5, j6, j7, j8⟩⟩, B, m, d, ys, ⟨g0, g1, g2, g3⟩, ⟨f0, f1, f2, f3⟩⟩ ⟨u0, ⟨u1, u2, u3, u4⟩, ⟨u5, u6, u7, u8⟩⟩ k).1, [], by simp, ⟨_, vc, BVz.out, by rw [hst.out]; exact OP.out, by rw [hst.out]; simpa using OC.out, HB.out⟩⟩
    have hi2 := lkN_inv ⟨⟨s0, s1, s2, s3⟩, ⟨i0, ⟨i1, i2, i3, i4⟩, ⟨i5, i6, i7, i8⟩⟩, A, n, c, xs, ⟨t0, t1, t2, t3⟩, ⟨j0, ⟨j1, j2, j3, j4⟩, ⟨j5, j6, j7, j8⟩⟩, B, m, d, ys, ⟨g0, g1, g2, g3⟩, ⟨f0, f1, f2, f3⟩⟩ hu k
    generalize hst2 : lkN ⟨⟨s0, s1, s2, s3⟩, ⟨i0, ⟨i1, i2, i3, i4⟩, ⟨i5, i6, i7, i8⟩⟩, A, n, c, xs, ⟨t0, t1, t2, t3⟩, ⟨j0, ⟨j1, j2, j3, j4⟩, ⟨j5, j6, j7, j8⟩⟩, B, m, d, ys, ⟨g0, g1, g2, g3⟩, ⟨f0, f1, f2, f3⟩⟩ ⟨u0, ⟨u1, u2, u3, u4⟩, ⟨u5, u6, u7, u8⟩⟩ k = st2 at hI2 hfin hi2
    replace hst2 := Lib.hid hst2
    replace hi2 := Lib.hid hi2
    clear BVz OP OC HB k0 hst
    go_loopw [] (fun wr => PvL2 w w8.heap.size ⟨⟨s0, s1, s2, s3⟩, ⟨i0, ⟨i1, i2, i3, i4⟩, ⟨i5, i6, i7, i8⟩⟩, A, n, c, xs, ⟨t0, t1, t2, t3⟩, ⟨j0, ⟨j1, j2, j3, j4⟩, ⟨j5, j6, j7, j8⟩⟩, B, m, d, ys, ⟨g0, g1, g2, g3⟩, ⟨f0, f1, f2, f3⟩⟩ st2 wr) (fun wr => lenAt wr w8.heap.size)
    case atStart => exact hI2
    case round =>
     obtain ⟨ps2, rest, hpr, ⟨vs2, vc2, BV2, OP2, OC2, HB2⟩⟩ := hrel
     rcases List.eq_nil_or_concat ps2 with rfl | ⟨qs, pr, rfl⟩
     ·obtain ⟨A2, c2, rfl⟩ := OP2.form
      have k0 : wr.cell? ⟨w8.heap.size, 0, none⟩ = some (.slice A2 0 c2) := BV2.cell 0
      have k37 : wr.cell? ⟨w8.heap.size, 37, none⟩ = some vc2 := BV2.cell 37
      replace OC2 := Lib.hid OC2
      replace HB2 := Lib.hid HB2
      replace hpr := Lib.hid hpr
      clear BV2
      go_wp2_with fail
      go_ret2
      refine ⟨vc2, k, rfl, ⟨hk, hne.out, by rw [hst2.out]; exact hfin.out, ?_⟩, HB2.out⟩
      rw [hst2.out]
      unfold restC
      rw [hpr.out, List.nil_append]
      exact OC2.out
     ·rw [List.concat_eq_append] at *
      obtain ⟨⟨a0, ⟨a1, a2, a3, a4⟩, ⟨a5, a6, a7, a8⟩⟩, ⟨b0, ⟨b1, b2, b3, b4⟩, ⟨b5, b6, b7, b8⟩⟩⟩ := pr
      obtain ⟨A2, c2, rfl⟩ := OP2.form
      have k0 : wr.cell? ⟨w8.heap.size, 0, none⟩ = some (.slice A2 (qs.length + 1) c2) := (by have h := BV2.cell 0; simpa using h)
      have hlen0 : lenAt wr w8.heap.size = qs.length + 1 := (lenAt_eq BV2).trans (by simp)
      have hl2 : qs.length ≤ 100000 ∧ (st2.2 ++ rest.reverse.map fun p => (⟨p, 1⟩ : Cl)).length ≤ 100000 := (by have h1 := congrArg List.length hpr; have h2 := hi2.out.2; simp at h1 h2 ⊢; omega)
      have HPop : Hid (∀ W vs, BlkV W w8.heap.size ⟨⟨s0, s1, s2, s3⟩, ⟨i0, ⟨i1, i2, i3, i4⟩, ⟨i5, i6, i7, i8⟩⟩, A, n, c, xs, ⟨t0, t1, t2, t3⟩, ⟨j0, ⟨j1, j2, j3, j4⟩, ⟨j5, j6, j7, j8⟩⟩, B, m, d, ys, ⟨g0, g1, g2, g3⟩, ⟨f0, f1, f2, f3⟩⟩ vs vc2 → OwnP W w.heap.size vs (qs ++ [⟨⟨a0, ⟨a1, a2, a3, a4⟩, ⟨a5, a6, a7, a8⟩⟩, ⟨b0, ⟨b1, b2, b3, b4⟩, ⟨b5, b6, b7, b8⟩⟩⟩]) → Calls Tryz.prog 19 #[.pointer (some ⟨w8.heap.size, 0, none⟩)] W fun e w' => e = .returned (.agg #[.b a0, .i a1, .b a2, .u a3, .i a4, .i a5, .b a6, .u a7, .i a8, .b b0, .i b1, .b b2, .u b3, .i b4, .i b5, .b b6, .u b7, .i b8]) ∧ ∃ v', BlkV w' w8.heap.size ⟨⟨s0, s1, s2, s3⟩, ⟨i0, ⟨i1, i2, i3, i4⟩, ⟨i5, i6, i7, i8⟩⟩, A, n, c, xs, ⟨t0, t1, t2, t3⟩, ⟨j0, ⟨j1, j2, j3, j4⟩, ⟨j5, j6, j7, j8⟩⟩, B, m, d, ys, ⟨g0, g1, g2, g3⟩, ⟨f0, f1, f2, f3⟩⟩ v' vc2 ∧ OwnP w' w.heap.size v' qs ∧ v'.ownBlock = vs.ownBlock ∧ Only (fun k => k = w8.heap.size) W w') := fun W vs hV ho => pop_calls w8.heap.size (pvRest ⟨⟨s0, s1, s2, s3⟩, ⟨i0, ⟨i1, i2, i3, i4⟩, ⟨i5, i6, i7, i8⟩⟩, A, n, c, xs, ⟨t0, t1, t2, t3⟩, ⟨j0, ⟨j1, j2, j3, j4⟩, ⟨j5, j6, j7, j8⟩⟩, B, m, d, ys, ⟨g0, g1, g2, g3⟩, ⟨f0, f1, f2, f3⟩⟩ vc2) 57 (by decide) w.heap.size vs qs ⟨⟨a0, ⟨a1, a2, a3, a4⟩, ⟨a5, a6, a7, a8⟩⟩, ⟨b0, ⟨b1, b2, b3, b4⟩, ⟨b5, b6, b7, b8⟩⟩⟩ W hV ho (by omega)
      have hbase := HB2.size
      generalize hcs : (st2.2 ++ rest.reverse.map fun p => (⟨p, 1⟩ : Cl)) = cs2 at OC2 hl2
      replace hcs := Lib.hid hcs
      replace hpr := Lib.hid hpr
      replace hlen0 := Lib.hid hlen0
      generalize hN : qs.length = N at k0 hl2
      replace hN := Lib.hid hN
      have hpos : (0 : Int) < (N : Int) + 1 := by omega
      replace BV2 := Lib.hid BV2
      replace OP2 := Lib.hid OP2
      replace OC2 := Lib.hid OC2
      replace HB2 := Lib.hid HB2
      go_wp2_with fail
      replace BV2 : BlkV _ w8.heap.size ⟨⟨s0, s1, s2, s3⟩, ⟨i0, ⟨i1, i2, i3, i4⟩, ⟨i5, i6, i7, i8⟩⟩, A, n, c, xs, ⟨t0, t1, t2, t3⟩, ⟨j0, ⟨j1, j2, j3, j4⟩, ⟨j5, j6, j7, j8⟩⟩, B, m, d, ys, ⟨g0, g1, g2, g3⟩, ⟨f0, f1, f2, f3⟩⟩ _ vc2 := BV2.out.drew
      replace OP2 := OP2.out.drew
      replace OC2 := OC2.out.drew
      replace HB2 : Below w.heap.size w wr.drew := ⟨HB2.out.os, HB2.out.tape, HB2.out.output, HB2.out.size, HB2.out.block⟩
      have c37 : wr.drew.cell? ⟨w8.heap.size, 37, none⟩ = some vc2 := BV2.cell 37
      clear k0
      refine start_ (n := 15) (S := fun w' => w'.cell? ⟨w8.heap.size, 37, none⟩ = some vc2 ∧ True) (ds := [14]) (bq 15 0) (by kernel_rfl) rfl rfl ⟨c37, trivial⟩ (fun hHeld => ?_)
      generalize hWW : World.drew _ = w21 at BV2 OP2 OC2 HB2 c37 hHeld ⊢
      clear hWW
      refine pu 0 79 (bq 15 1) ?_ ?_ (fun _ => ?_) ?_ ?_
      rotate_left 2
      ·go_simp
       with_reducible rfl
      ·simp only [Act.put, pA, pB, pC]
       rfl
      refine pu 1 80 (bq 15 3) ?_ ?_ (fun _ => ?_) ?_ ?_
      rotate_left 2
      ·go_simp
       with_reducible rfl
      ·simp only [Act.put, pA, pB, pC]
       rfl
      refine pu 2 81 (bq 15 7) ?_ ?_ (fun _ => ?_) ?_ ?_
      rotate_left 2
      ·go_simp
       with_reducible rfl
      ·simp only [Act.put, pA, pB, pC]
       rfl
      refine pu 3 82 (bq 15 15) ?_ ?_ (fun _ => ?_) ?_ ?_
      rotate_left 2
      ·go_simp
       with_reducible rfl
      ·simp only [Act.put, pA, pB, pC]
       rfl
      refine tk 4 83 (bq 15 31) ?_ ?_ ?_ ?_ hHeld ?_
      rotate_left 2
      ·rintro w' ⟨s0_⟩
       go_simp
       with_reducible rfl
      ·simp only [Act.put, pA, pB, pC]
       rfl
      refine pu 5 84 (bq 15 63) ?_ ?_ (fun _ => ?_) ?_ ?_
      rotate_left 2
      ·go_simp
       with_reducible rfl
      ·simp only [Act.put, pA, pB, pC]
       rfl
      refine pu 6 85 (bq 15 127) ?_ ?_ (fun _ => ?_) ?_ ?_
      rotate_left 2
      ·go_simp
       with_reducible rfl
      ·simp only [Act.put, pA, pB, pC]
       rfl
      refine pu 7 86 (bq 15 255) ?_ ?_ (fun _ => ?_) ?_ ?_
      rotate_left 2
      ·go_simp
       with_reducible rfl
      ·simp only [Act.put, pA, pB, pC]
       rfl
      refine on 8 87 (bq 15 511) (fun K hK => ?_)
      refine goes_ Tryz.func19 (by kernel_rfl) rfl #[.pointer (some ⟨w8.heap.size, 0, none⟩)] (by first | rfl | go_simp) rfl rfl (by simp only [List.map_toArray, List.map_cons, List.map_nil] <;> rfl) ?_
      with_reducible refine (HPop.out _ _ BV2 OP2).mono ?_
      rintro e w22 ⟨rfl, v3, BV3, OP3, e3, ON3⟩
      refine ⟨_, rfl, ?_⟩
      have OC3 := OC2.same (fun g hg => (by obtain ⟨cur, hcur⟩ := OC2.cells hg; exact (ON3.blk hcur (blk_ne hcur BV2 (by decide))).trans hcur.symm))
      have HB3 : Below w.heap.size w w22 := HB2.trans (ON3.below HB2.size (fun k hk => (by rw [hk]; omega)))
      clear c37
      have c37 : w22.cell? ⟨w8.heap.size, 37, none⟩ = some vc2 := BV3.cell 37
      have hb := ON3
      clear BV2 OP2 OC2 HB2 ON3 e3
      refine hK.out _ _ ⟨c37, trivial⟩ (fun hHeld => ?_)
      clear hK K hb
      refine norm_ (a' := ?_) ?_ ?_
      rotate_left
      ·show Act.put _ (some 87) _ = _
       simp only [Act.put, pA, pB, pC]
       rfl
      refine pu 9 88 (bq 15 1023) ?_ ?_ (fun _ => ?_) ?_ ?_
      rotate_left 2
      ·go_simp
       with_reducible rfl
      ·simp only [Act.put, pA, pB, pC]
       rfl
      refine on 10 89 (bq 15 2047) (fun K hK => ?_)
      refine value_ (v := ?_) (w1 := ?_) (by rfl) rfl ?_ ?_
      rotate_left 2
      ·go_simp
       first | rfl | (constructor <;> rfl)
      have BS : Blk _ w22.heap.size 43 (List.flatMap clCells [⟨⟨⟨a0, ⟨a1, a2, a3, a4⟩, ⟨a5, a6, a7, a8⟩⟩, ⟨b0, ⟨b1, b2, b3, b4⟩, ⟨b5, b6, b7, b8⟩⟩⟩, 1⟩]).toArray := Blk.new w22 43 #[.b a0, .i a1, .b a2, .u a3, .i a4, .i a5, .b a6, .u a7, .i a8, .b b0, .i b1, .b b2, .u b3, .i b4, .i b5, .b b6, .u b7, .i b8, .i 1]
      have HS1 := SlG.lit clCells_length (by decide) [⟨⟨⟨a0, ⟨a1, a2, a3, a4⟩, ⟨a5, a6, a7, a8⟩⟩, ⟨b0, ⟨b1, b2, b3, b4⟩, ⟨b5, b6, b7, b8⟩⟩⟩, 1⟩] (n := 1) rfl BS BS.lt
      replace BV3 : BlkV _ w8.heap.size ⟨⟨s0, s1, s2, s3⟩, ⟨i0, ⟨i1, i2, i3, i4⟩, ⟨i5, i6, i7, i8⟩⟩, A, n, c, xs, ⟨t0, t1, t2, t3⟩, ⟨j0, ⟨j1, j2, j3, j4⟩, ⟨j5, j6, j7, j8⟩⟩, B, m, d, ys, ⟨g0, g1, g2, g3⟩, ⟨f0, f1, f2, f3⟩⟩ _ vc2 := BV3.alloc (.cells #[.b a0, .i a1, .b a2, .u a3, .i a4, .i a5, .b a6, .u a7, .i a8, .b b0, .i b1, .b b2, .u b3, .i b4, .i b5, .b b6, .u b7, .i b8, .i 1] 43)
      replace OP3 := OP3.alloc (.cells #[.b a0, .i a1, .b a2, .u a3, .i a4, .i a5, .b a6, .u a7, .i a8, .b b0, .i b1, .b b2, .u b3, .i b4, .i b5, .b b6, .u b7, .i b8, .i 1] 43)
      replace OC3 := OC3.alloc (.cells #[.b a0, .i a1, .b a2, .u a3, .i a4, .i a5, .b a6, .u a7, .i a8, .b b0, .i b1, .b b2, .u b3, .i b4, .i b5, .b b6, .u b7, .i b8, .i 1] 43)
      replace HB3 := HB3.alloc HB3.size (.cells #[.b a0, .i a1, .b a2, .u a3, .i a4, .i a5, .b a6, .u a7, .i a8, .b b0, .i b1, .b b2, .u b3, .i b4, .i b5, .b b6, .u b7, .i b8, .i 1] 43)
      clear c37
      have c37 : World.cell? (w22.alloc (.cells #[.b a0, .i a1, .b a2, .u a3, .i a4, .i a5, .b a6, .u a7, .i a8, .b b0, .i b1, .b b2, .u b3, .i b4, .i b5, .b b6, .u b7, .i b8, .i 1] 43)) ⟨w8.heap.size, 37, none⟩ = some vc2 := BV3.cell 37
      refine hK.out _ _ ⟨c37, trivial⟩ (fun hHeld => ?_)
      clear hK K
      refine norm_ (a' := ?_) ?_ ?_
      rotate_left
      ·show Act.put _ (some 89) _ = _
       simp only [Act.put, pA, pB, pC]
       rfl
      refine on 11 90 (bq 15 4095) (fun K hK => ?_)
      refine step_appC (by rfl) (.tmp 83) (.tmp 89) (by rfl) w.heap.size vc2 cs2 (by rfl) OC3 _ ⟨w22.heap.size, 0, none⟩ 1 1 [⟨⟨⟨a0, ⟨a1, a2, a3, a4⟩, ⟨a5, a6, a7, a8⟩⟩, ⟨b0, ⟨b1, b2, b3, b4⟩, ⟨b5, b6, b7, b8⟩⟩⟩, 1⟩] (by rfl) HS1 (by omega) HB3.size ?_
      intro v7 w24 OC7 hg7 hat7
      obtain ⟨A7, n7, c7, rfl⟩ : ∃ A n c, v7 = .slice A n c := (by obtain ⟨A, c, e⟩ := OC7.form; exact ⟨A, _, c, e⟩)
      replace BV3 : BlkV w24 w8.heap.size ⟨⟨s0, s1, s2, s3⟩, ⟨i0, ⟨i1, i2, i3, i4⟩, ⟨i5, i6, i7, i8⟩⟩, A, n, c, xs, ⟨t0, t1, t2, t3⟩, ⟨j0, ⟨j1, j2, j3, j4⟩, ⟨j5, j6, j7, j8⟩⟩, B, m, d, ys, ⟨g0, g1, g2, g3⟩, ⟨f0, f1, f2, f3⟩⟩ _ vc2 := BV3.grown hg7 (fun e => by obtain ⟨cur, hcur⟩ := OC3.cells e.symm; exact blk_ne BV3 hcur (by decide) rfl)
      replace OP3 := OP3.same (fun g hg => hg7.block g (OP3.lt g hg).2 (fun e => by obtain ⟨cur, hcur⟩ := OC3.cells e.symm; obtain ⟨cur', hcur'⟩ := OP3.cells hg; exact blk_ne hcur' hcur (by decide) rfl))
      replace HB3 := HB3.grown hg7 HB3.size (fun k hk => (OC3.lt k hk).1)
      clear c37
      have c37 : w24.cell? ⟨w8.heap.size, 37, none⟩ = some vc2 := BV3.cell 37
      clear OC3 BS HS1 hg7
      refine hK.out _ _ ⟨c37, trivial⟩ (fun hHeld => ?_)
      clear hK K
      refine norm_ (a' := ?_) ?_ ?_
      rotate_left
      ·show Act.put _ (some 90) _ = _
       simp only [Act.put, pA, pB, pC]
       rfl
      refine pu 12 91 (bq 15 8191) ?_ ?_ (fun _ => ?_) ?_ ?_
      rotate_left 2
      ·go_simp
       with_reducible rfl
      ·simp only [Act.put, pA, pB, pC]
       rfl
      refine pu 13 92 (bq 15 16383) ?_ ?_ (fun _ => ?_) ?_ ?_
      rotate_left 2
      ·go_simp
       with_reducible rfl
      ·simp only [Act.put, pA, pB, pC]
       rfl
      have f37 : w24.frozen? ⟨w8.heap.size, 37, none⟩ = false := BV3.frozen 37
      refine last_ (i := 14) (N := none) (bq 15 32767) rfl rfl (by kernel_rfl) (by decide) (fun K hK => ?_)
      refine skip_ (w1 := ?_) (by rfl) rfl ?_ ?_
      rotate_left
      ·go_simp
       rfl
      refine hK.out _ _ ?_
      clear hK K
      refine done_ (by kernel_rfl) ?_
      clear hHeld
      go_wp2_with fail
      obtain ⟨A3, c3, rfl⟩ := OP3.form
      have BVf : BlkV (w24.setCell ⟨w8.heap.size, 37, none⟩ (.slice A7 n7 c7)) w8.heap.size ⟨⟨s0, s1, s2, s3⟩, ⟨i0, ⟨i1, i2, i3, i4⟩, ⟨i5, i6, i7, i8⟩⟩, A, n, c, xs, ⟨t0, t1, t2, t3⟩, ⟨j0, ⟨j1, j2, j3, j4⟩, ⟨j5, j6, j7, j8⟩⟩, B, m, d, ys, ⟨g0, g1, g2, g3⟩, ⟨f0, f1, f2, f3⟩⟩ (.slice A3 qs.length c3) (.slice A7 n7 c7) := (by have h := BV3.set_ 37 (.slice A7 n7 c7); rw [pv_set] at h; exact h)
      go_roundw
      case rel =>
       refine ⟨qs, ⟨⟨a0, ⟨a1, a2, a3, a4⟩, ⟨a5, a6, a7, a8⟩⟩, ⟨b0, ⟨b1, b2, b3, b4⟩, ⟨b5, b6, b7, b8⟩⟩⟩ :: rest, by rw [hpr.out]; simp, ⟨_, _, BVf, ?_, ?_, HB3.setCell (p := ⟨w8.heap.size, 37, none⟩) (by show w.heap.size ≤ w8.heap.size; omega) _⟩⟩
       ·exact OP3.same fun g hg => Below.heap_setCell w24 ⟨w8.heap.size, 37, none⟩ _ g (by obtain ⟨cur, hcur⟩ := OP3.cells hg; exact blk_ne hcur BV3 (by decide))
       ·have e : (st2.2 ++ (⟨⟨a0, ⟨a1, a2, a3, a4⟩, ⟨a5, a6, a7, a8⟩⟩, ⟨b0, ⟨b1, b2, b3, b4⟩, ⟨b5, b6, b7, b8⟩⟩⟩ :: rest : List Pr).reverse.map fun p => (⟨p, 1⟩ : Cl)) = cs2 ++ [⟨⟨⟨a0, ⟨a1, a2, a3, a4⟩, ⟨a5, a6, a7, a8⟩⟩, ⟨b0, ⟨b1, b2, b3, b4⟩, ⟨b5, b6, b7, b8⟩⟩⟩, 1⟩] := by rw [← hcs.out]; simp
        rw [e]
        exact OC7.same fun g hg => Below.heap_setCell w24 ⟨w8.heap.size, 37, none⟩ _ g (by obtain ⟨cur, hcur⟩ := OC7.cells hg; exact blk_ne hcur BV3 (by decide))
      case measure =>
       rw [lenAt_eq BVf, hlen0.out]
       omega
   rw [List.concat_eq_append] at *
   obtain ⟨A0, c0, rfl⟩ := OP.out.form
   have k0 : wr.cell? ⟨w8.heap.size, 0, none⟩ = some (.slice A0 (ps.length + 1) c0) := (by have h := BV.cell 0; simpa using h)
   have hl0 : ps.length ≤ 2000 := (by have := hi.2.1; simp at this; omega)
   have hcl : cs.length ≤ 2000 := (by have := hi.2.2; omega)
   have wp : WfP p := hi.1 p (by simp)
   clear BV hi
   replace hst := Lib.hid hst
   by_cases hlt : k < bud
   ·have HLk := Lib.hid (look_calls w8.heap.size ⟨⟨s0, s1, s2, s3⟩, ⟨i0, ⟨i1, i2, i3, i4⟩, ⟨i5, i6, i7, i8⟩⟩, A, n, c, xs, ⟨t0, t1, t2, t3⟩, ⟨j0, ⟨j1, j2, j3, j4⟩, ⟨j5, j6, j7, j8⟩⟩, B, m, d, ys, ⟨g0, g1, g2, g3⟩, ⟨f0, f1, f2, f3⟩⟩ w.heap.size _ vc ps p cs wr BVz.out OP.out OC.out hbase (by omega) hPv wp (by omega) (by omega))
    rw [show lookS (outX ⟨⟨s0, s1, s2, s3⟩, ⟨i0, ⟨i1, i2, i3, i4⟩, ⟨i5, i6, i7, i8⟩⟩, A, n, c, xs, ⟨t0, t1, t2, t3⟩, ⟨j0, ⟨j1, j2, j3, j4⟩, ⟨j5, j6, j7, j8⟩⟩, B, m, d, ys, ⟨g0, g1, g2, g3⟩, ⟨f0, f1, f2, f3⟩⟩) (splP (PvX.f ⟨⟨s0, s1, s2, s3⟩, ⟨i0, ⟨i1, i2, i3, i4⟩, ⟨i5, i6, i7, i8⟩⟩, A, n, c, xs, ⟨t0, t1, t2, t3⟩, ⟨j0, ⟨j1, j2, j3, j4⟩, ⟨j5, j6, j7, j8⟩⟩, B, m, d, ys, ⟨g0, g1, g2, g3⟩, ⟨f0, f1, f2, f3⟩⟩)) (ps ++ [p], cs) = lkN ⟨⟨s0, s1, s2, s3⟩, ⟨i0, ⟨i1, i2, i3, i4⟩, ⟨i5, i6, i7, i8⟩⟩, A, n, c, xs, ⟨t0, t1, t2, t3⟩, ⟨j0, ⟨j1, j2, j3, j4⟩, ⟨j5, j6, j7, j8⟩⟩, B, m, d, ys, ⟨g0, g1, g2, g3⟩, ⟨f0, f1, f2, f3⟩⟩ ⟨u0, ⟨u1, u2, u3, u4⟩, ⟨u5, u6, u7, u8⟩⟩ (k + 1) from hsucc.symm] at HLk
    have hne' : Hid (∀ j, j < k + 1 → (lkN ⟨⟨s0, s1, s2, s3⟩, ⟨i0, ⟨i1, i2, i3, i4⟩, ⟨i5, i6, i7, i8⟩⟩, A, n, c, xs, ⟨t0, t1, t2, t3⟩, ⟨j0, ⟨j1, j2, j3, j4⟩, ⟨j5, j6, j7, j8⟩⟩, B, m, d, ys, ⟨g0, g1, g2, g3⟩, ⟨f0, f1, f2, f3⟩⟩ ⟨u0, ⟨u1, u2, u3, u4⟩, ⟨u5, u6, u7, u8⟩⟩ j).1 ≠ []) := fun j hj => by
     rcases Nat.lt_succ_iff_lt_or_eq.1 hj with h | rfl
     ·exact hne.out j h
     ·rw [hst.out]; simp
    clear hsucc
    generalize hN : ps.length = N at k0 hl0
    have hpos : (0 : Int) < (N : Int) + 1 := by omega
    clear hN
    go_wp2_with (go_at_call 18; (with_reducible refine HLk.out.mono ?_); rintro e w20 ⟨⟨u_, rfl⟩, vs', vc', BV', OP', OC', HB'⟩)
    go_roundw
    case rel => exact ⟨k + 1, hlt, by go_num, ⟨vs', vc', BV', OP', OC', HB.out.trans HB'⟩, hne'.out⟩
    case measure => simp [intOf]; omega
   ·have hkb : k = bud := by omega
    subst hkb
    have hfin : Hid (k < k → (lkN ⟨⟨s0, s1, s2, s3⟩, ⟨i0, ⟨i1, i2, i3, i4⟩, ⟨i5, i6, i7, i8⟩⟩, A, n, c, xs, ⟨t0, t1, t2, t3⟩, ⟨j0, ⟨j1, j2, j3, j4⟩, ⟨j5, j6, j7, j8⟩⟩, B, m, d, ys, ⟨g0, g1, g2, g3⟩, ⟨f0, f1, f2, f3⟩⟩ ⟨u0, ⟨u1, u2, u3, u4⟩, ⟨u5, u6, u7, u8⟩⟩ k).1 = []) := fun h => absurd h (Nat.lt_irrefl _)
    clear hsucc
    generalize hN : ps.length = N at k0 hl0
    replace hN := Lib.hid hN
    have hpos : (0 : Int) < (N : Int) + 1 := by omega
    go_wp2_with fail
    have hI2 : PvL2 w w8.heap.size ⟨⟨s0, s1, s2, s3⟩, ⟨i0, ⟨i1, i2, i3, i4⟩, ⟨i5, i6, i7, i8⟩⟩, A, n, c, xs, ⟨t0, t1, t2, t3⟩, ⟨j0, ⟨j1, j2, j3, j4⟩, ⟨j5, j6, j7, j8⟩⟩, B, m, d, ys, ⟨g0, g1, g2, g3⟩, ⟨f0, f1, f2, f3⟩⟩ (lkN ⟨⟨s0, s1, s2, s3⟩, ⟨i0, ⟨i1, i2, i3, i4⟩, ⟨i5, i6, i7, i8⟩⟩, A, n, c, xs, ⟨t0, t1, t2, t3⟩, ⟨j0, ⟨j1, j2, j3, j4⟩, ⟨j5, j6, j7, j8⟩⟩, B, m, d, ys, ⟨g0, g1, g2, g3⟩, ⟨f0, f1, f2, f3⟩⟩ ⟨u0, ⟨u1, u2, u3, u4⟩, ⟨u5, u6, u7, u8⟩⟩ k) wr := ⟨(lkN ⟨⟨s0, s1, s2, s3⟩, ⟨i0, ⟨i1, i2, i3, i4⟩, ⟨i5, i6, i7, i8⟩⟩, A, n, c, xs, ⟨t0, t1, t2, t3⟩, ⟨j0, ⟨j1, j2, j3, j4⟩, ⟨j5, j6, j7, j8⟩⟩, B, m, d, ys, ⟨g0, g1, g2, g3⟩, ⟨f0, f1, f2, f3⟩⟩ ⟨u0, ⟨u1, u2, u3, u4⟩, ⟨u5, u6, u7, u8⟩⟩ k).1, [], by simp, ⟨_, vc, BVz.out, by rw [hst.out]; exact OP.out, by rw [hst.out]; simpa using OC.out, HB.out⟩⟩
    have hi2 := lkN_inv ⟨⟨s0, s1, s2, s3⟩, ⟨i0, ⟨i1, i2, i3, i4⟩, ⟨i5, i6, i7, i8⟩⟩, A, n, c, xs, ⟨t0, t1, t2, t3⟩, ⟨j0, ⟨j1, j2, j3, j4⟩, ⟨j5, j6, j7, j8⟩⟩, B, m, d, ys, ⟨g0, g1, g2, g3⟩, ⟨f0, f1, f2, f3⟩⟩ hu k
    generalize hst2 : lkN ⟨⟨s0, s1, s2, s3⟩, ⟨i0, ⟨i1, i2, i3, i4⟩, ⟨i5, i6, i7, i8⟩⟩, A, n, c, xs, ⟨t0, t1, t2, t3⟩, ⟨j0, ⟨j1, j2, j3, j4⟩, ⟨j5, j6, j7, j8⟩⟩, B, m, d, ys, ⟨g0, g1, g2, g3⟩, ⟨f0, f1, f2, f3⟩⟩ ⟨u0, ⟨u1, u2, u3, u4⟩, ⟨u5, u6, u7, u8⟩⟩ k = st2 at hI2 hfin hi2
    replace hst2 := Lib.hid hst2
    replace hi2 := Lib.hid hi2
    clear BVz OP OC HB k0 hst
    go_loopw [] (fun wr => PvL2 w w8.heap.size ⟨⟨s0, s1, s2, s3⟩, ⟨i0, ⟨i1, i2, i3, i4⟩, ⟨i5, i6, i7, i8⟩⟩, A, n, c, xs, ⟨t0, t1, t2, t3⟩, ⟨j0, ⟨j1, j2, j3, j4⟩, ⟨j5, j6, j7, j8⟩⟩, B, m, d, ys, ⟨g0, g1, g2, g3⟩, ⟨f0, f1, f2, f3⟩⟩ st2 wr) (fun wr => lenAt wr w8.heap.size)
    case atStart => exact hI2
    case round =>
     obtain ⟨ps2, rest, hpr, ⟨vs2, vc2, BV2, OP2, OC2, HB2⟩⟩ := hrel
     rcases List.eq_nil_or_concat ps2 with rfl | ⟨qs, pr, rfl⟩
     ·obtain ⟨A2, c2, rfl⟩ := OP2.form
      have k0 : wr.cell? ⟨w8.heap.size, 0, none⟩ = some (.slice A2 0 c2) := BV2.cell 0
      have k37 : wr.cell? ⟨w8.heap.size, 37, none⟩ = some vc2 := BV2.cell 37
      replace OC2 := Lib.hid OC2
      replace HB2 := Lib.hid HB2
      replace hpr := Lib.hid hpr
      clear BV2
      go_wp2_with fail
      go_ret2
      refine ⟨vc2, k, rfl, ⟨hk, hne.out, by rw [hst2.out]; exact hfin.out, ?_⟩, HB2.out⟩
      rw [hst2.out]
      unfold restC
      rw [hpr.out, List.nil_append]
      exact OC2.out
     ·rw [List.concat_eq_append] at *
      obtain ⟨⟨a0, ⟨a1, a2, a3, a4⟩, ⟨a5, a6, a7, a8⟩⟩, ⟨b0, ⟨b1, b2, b3, b4⟩, ⟨b5, b6, b7, b8⟩⟩⟩ := pr
      obtain ⟨A2, c2, rfl⟩ := OP2.form
      have k0 : wr.cell? ⟨w8.heap.size, 0, none⟩ = some (.slice A2 (qs.length + 1) c2) := (by have h := BV2.cell 0; simpa using h)
      have hlen0 : lenAt wr w8.heap.size = qs.length + 1 := (lenAt_eq BV2).trans (by simp)
      have hl2 : qs.length ≤ 100000 ∧ (st2.2 ++ rest.reverse.map fun p => (⟨p, 1⟩ : Cl)).length ≤ 100000 := (by have h1 := congrArg List.length hpr; have h2 := hi2.out.2; simp at h1 h2 ⊢; omega)
      have HPop : Hid (∀ W vs, BlkV W w8.heap.size ⟨⟨s0, s1, s2, s3⟩, ⟨i0, ⟨i1, i2, i3, i4⟩, ⟨i5, i6, i7, i8⟩⟩, A, n, c, xs, ⟨t0, t1, t2, t3⟩, ⟨j0, ⟨j1, j2, j3, j4⟩, ⟨j5, j6, j7, j8⟩⟩, B, m, d, ys, ⟨g0, g1, g2, g3⟩, ⟨f0, f1, f2, f3⟩⟩ vs vc2 → OwnP W w.heap.size vs (qs ++ [⟨⟨a0, ⟨a1, a2, a3, a4⟩, ⟨a5, a6, a7, a8⟩⟩, ⟨b0, ⟨b1, b2, b3, b4⟩, ⟨b5, b6, b7, b8⟩⟩⟩]) → Calls Tryz.prog 19 #[.pointer (some ⟨w8.heap.size, 0, none⟩)] W fun e w' => e = .returned (.agg #[.b a0, .i a1, .b a2, .u a3, .i a4, .i a5, .b a6, .u a7, .i a8, .b b0, .i b1, .b b2, .u b3, .i b4, .i b5, .b b6, .u b7, .i b8]) ∧ ∃ v', BlkV w' w8.heap.size ⟨⟨s0, s1, s2, s3⟩, ⟨i0, ⟨i1, i2, i3, i4⟩, ⟨i5, i6, i7, i8⟩⟩, A, n, c, xs, ⟨t0, t1, t2, t3⟩, ⟨j0, ⟨j1, j2, j3, j4⟩, ⟨j5, j6, j7, j8⟩⟩, B, m, d, ys, ⟨g0, g1, g2, g3⟩, ⟨f0, f1, f2, f3⟩⟩ v' vc2 ∧ OwnP w' w.heap.size v' qs ∧ v'.ownBlock = vs.ownBlock ∧ Only (fun k => k = w8.heap.size) W w') := fun W vs hV ho => pop_calls w8.heap.size (pvRest ⟨⟨s0, s1, s2, s3⟩, ⟨i0, ⟨i1, i2, i3, i4⟩, ⟨i5, i6, i7, i8⟩⟩, A, n, c, xs, ⟨t0, t1, t2, t3⟩, ⟨j0, ⟨j1, j2, j3, j4⟩, ⟨j5, j6, j7, j8⟩⟩, B, m, d, ys, ⟨g0, g1, g2, g3⟩, ⟨f0, f1, f2, f3⟩⟩ vc2) 57 (by decide) w.heap.size vs qs ⟨⟨a0, ⟨a1, a2, a3, a4⟩, ⟨a5, a6, a7, a8⟩⟩, ⟨b0, ⟨b1, b2, b3, b4⟩, ⟨b5, b6, b7, b8⟩⟩⟩ W hV ho (by omega)
      have hbase := HB2.size
      generalize hcs : (st2.2 ++ rest.reverse.map fun p => (⟨p, 1⟩ : Cl)) = cs2 at OC2 hl2
      replace hcs := Lib.hid hcs
      replace hpr := Lib.hid hpr
      replace hlen0 := Lib.hid hlen0
      generalize hN : qs.length = N at k0 hl2
      replace hN := Lib.hid hN
      have hpos : (0 : Int) < (N : Int) + 1 := by omega
      replace BV2 := Lib.hid BV2
      replace OP2 := Lib.hid OP2
      replace OC2 := Lib.hid OC2
      replace HB2 := Lib.hid HB2
      go_wp2_with fail
      replace BV2 : BlkV _ w8.heap.size ⟨⟨s0, s1, s2, s3⟩, ⟨i0, ⟨i1, i2, i3, i4⟩, ⟨i5, i6, i7, i8⟩⟩, A, n, c, xs, ⟨t0, t1, t2, t3⟩, ⟨j0, ⟨j1, j2, j3, j4⟩, ⟨j5, j6, j7, j8⟩⟩, B, m, d, ys, ⟨g0, g1, g2, g3⟩, ⟨f0, f1, f2, f3⟩⟩ _ vc2 := BV2.out.drew
      replace OP2 := OP2.out.drew
      replace OC2 := OC2.out.drew
      replace HB2 : Below w.heap.size w wr.drew := ⟨HB2.out.os, HB2.out.tape, HB2.out.output, HB2.out.size, HB2.out.block⟩
      have c37 : wr.drew.cell? ⟨w8.heap.size, 37, none⟩ = some vc2 := BV2.cell 37
      clear k0
      refine start_ (n := 15) (S := fun w' => w'.cell? ⟨w8.heap.size, 37, none⟩ = some vc2 ∧ True) (ds := [14]) (bq 15 0) (by kernel_rfl) rfl rfl ⟨c37, trivial⟩ (fun hHeld => ?_)
      generalize hWW : World.drew _ = w21 at BV2 OP2 OC2 HB2 c37 hHeld ⊢
      clear hWW
      refine pu 0 79 (bq 15 1) ?_ ?_ (fun _ => ?_) ?_ ?_
      rotate_left 2
      ·go_simp
       with_reducible rfl
      ·simp only [Act.put, pA, pB, pC]
       rfl
      refine pu 1 80 (bq 15 3) ?_ ?_ (fun _ => ?_) ?_ ?_
      rotate_left 2
      ·go_simp
       with_reducible rfl
      ·simp only [Act.put, pA, pB, pC]
       rfl
      refine pu 2 81 (bq 15 7) ?_ ?_ (fun _ => ?_) ?_ ?_
      rotate_left 2
      ·go_simp
       with_reducible rfl
      ·simp only [Act.put, pA, pB, pC]
       rfl
      refine pu 3 82 (bq 15 15) ?_ ?_ (fun _ => ?_) ?_ ?_
      rotate_left 2
      ·go_simp
       with_reducible rfl
      ·simp only [Act.put, pA, pB, pC]
       rfl
      refine tk 4 83 (bq 15 31) ?_ ?_ ?_ ?_ hHeld ?_
      rotate_left 2
      ·rintro w' ⟨s0_⟩
       go_simp
       with_reducible rfl
      ·simp only [Act.put, pA, pB, pC]
       rfl
      refine pu 5 84 (bq 15 63) ?_ ?_ (fun _ => ?_) ?_ ?_
      rotate_left 2
      ·go_simp
       with_reducible rfl
      ·simp only [Act.put, pA, pB, pC]
       rfl
      refine pu 6 85 (bq 15 127) ?_ ?_ (fun _ => ?_) ?_ ?_
      rotate_left 2
      ·go_simp
       with_reducible rfl
      ·simp only [Act.put, pA, pB, pC]
       rfl
      refine pu 7 86 (bq 15 255) ?_ ?_ (fun _ => ?_) ?_ ?_
      rotate_left 2
      ·go_simp
       with_reducible rfl
      ·simp only [Act.put, pA, pB, pC]
       rfl
      refine on 8 87 (bq 15 511) (fun K hK => ?_)
      refine goes_ Tryz.func19 (by kernel_rfl) rfl #[.pointer (some ⟨w8.heap.size, 0, none⟩)] (by first | rfl | go_simp) rfl rfl (by simp only [List.map_toArray, List.map_cons, List.map_nil] <;> rfl) ?_
      with_reducible refine (HPop.out _ _ BV2 OP2).mono ?_
      rintro e w22 ⟨rfl, v3, BV3, OP3, e3, ON3⟩
      refine ⟨_, rfl, ?_⟩
      have OC3 := OC2.same (fun g hg => (by obtain ⟨cur, hcur⟩ := OC2.cells hg; exact (ON3.blk hcur (blk_ne hcur BV2 (by decide))).trans hcur.symm))
      have HB3 : Below w.heap.size w w22 := HB2.trans (ON3.below HB2.size (fun k hk => (by rw [hk]; omega)))
      clear c37
      have c37 : w22.cell? ⟨w8.heap.size, 37, none⟩ = some vc2 := BV3.cell 37
      have hb := ON3
      clear BV2 OP2 OC2 HB2 ON3 e3
      refine hK.out _ _ ⟨c37, trivial⟩ (fun hHeld => ?_)
      clear hK K hb
      refine norm_ (a' := ?_) ?_ ?_
      rotate_left
      ·show Act.put _ (some 87) _ = _
       simp only [Act.put, pA, pB, pC]
       rfl
      refine pu 9 88 (bq 15 1023) ?_ ?_ (fun _ => ?_) ?_ ?_
      rotate_left 2
      ·go_simp
       with_reducible rfl
      ·simp only [Act.put, pA, pB, pC]
       rfl
      refine on 10 89 (bq 15 2047) (fun K hK => ?_)
      refine value_ (v := ?_) (w1 := ?_) (by rfl) rfl ?_ ?_
      rotate_left 2
      ·go_simp
       first | rfl | (constructor <;> rfl)
      have BS : Blk _ w22.heap.size 43 (List.flatMap clCells [⟨⟨⟨a0, ⟨a1, a2, a3, a4⟩, ⟨a5, a6, a7, a8⟩⟩, ⟨b0, ⟨b1, b2, b3, b4⟩, ⟨b5, b6, b7, b8⟩⟩⟩, 1⟩]).toArray := Blk.new w22 43 #[.b a0, .i a1, .b a2, .u a3, .i a4, .i a5, .b a6, .u a7, .i a8, .b b0, .i b1, .b b2, .u b3, .i b4, .i b5, .b b6, .u b7, .i b8, .i 1]
      have HS1 := SlG.lit clCells_length (by decide) [⟨⟨⟨a0, ⟨a1, a2, a3, a4⟩, ⟨a5, a6, a7, a8⟩⟩, ⟨b0, ⟨b1, b2, b3, b4⟩, ⟨b5, b6, b7, b8⟩⟩⟩, 1⟩] (n := 1) rfl BS BS.lt
      replace BV3 : BlkV _ w8.heap.size ⟨⟨s0, s1, s2, s3⟩, ⟨i0, ⟨i1, i2, i3, i4⟩, ⟨i5, i6, i7, i8⟩⟩, A, n, c, xs, ⟨t0, t1, t2, t3⟩, ⟨j0, ⟨j1, j2, j3, j4⟩, ⟨j5, j6, j7, j8⟩⟩, B, m, d, ys, ⟨g0, g1, g2, g3⟩, ⟨f0, f1, f2, f3⟩⟩ _ vc2 := BV3.alloc (.cells #[.b a0, .i a1, .b a2, .u a3, .i a4, .i a5, .b a6, .u a7, .i a8, .b b0, .i b1, .b b2, .u b3, .i b4, .i b5, .b b6, .u b7, .i b8, .i 1] 43)
      replace OP3 := OP3.alloc (.cells #[.b a0, .i a1, .b a2, .u a3, .i a4, .i a5, .b a6, .u a7, .i a8, .b b0, .i b1, .b b2, .u b3, .i b4, .i b5, .b b6, .u b7, .i b8, .i 1] 43)
      replace OC3 := OC3.alloc (.cells #[.b a0, .i a1, .b a2, .u a3, .i a4, .i a5, .b a6, .u a7, .i a8, .b b0, .i b1, .b b2, .u b3, .i b4, .i b5, .b b6, .u b7, .i b8, .i 1] 43)
      replace HB3 := HB3.alloc HB3.size (.cells #[.b a0, .i a1, .b a2, .u a3, .i a4, .i a5, .b a6, .u a7, .i a8, .b b0, .i b1, .b b2, .u b3, .i b4, .i b5, .b b6, .u b7, .i b8, .i 1] 43)
      clear c37
      have c37 : World.cell? (w22.alloc (.cells #[.b a0, .i a1, .b a2, .u a3, .i a4, .i a5, .b a6, .u a7, .i a8, .b b0, .i b1, .b b2, .u b3, .i b4, .i b5, .b b6, .u b7, .i b8, .i 1] 43)) ⟨w8.heap.size, 37, none⟩ = some vc2 := BV3.cell 37
      refine hK.out _ _ ⟨c37, trivial⟩ (fun hHeld => ?_)
      clear hK K
      refine norm_ (a' := ?_) ?_ ?_
      rotate_left
      ·show Act.put _ (some 89) _ = _
       simp only [Act.put, pA, pB, pC]
       rfl
      refine on 11 90 (bq 15 4095) (fun K hK => ?_)
      refine step_appC (by rfl) (.tmp 83) (.tmp 89) (by rfl) w.heap.size vc2 cs2 (by rfl) OC3 _ ⟨w22.heap.size, 0, none⟩ 1 1 [⟨⟨⟨a0, ⟨a1, a2, a3, a4⟩, ⟨a5, a6, a7, a8⟩⟩, ⟨b0, ⟨b1, b2, b3, b4⟩, ⟨b5, b6, b7, b8⟩⟩⟩, 1⟩] (by rfl) HS1 (by omega) HB3.size ?_
      intro v7 w24 OC7 hg7 hat7
      obtain ⟨A7, n7, c7, rfl⟩ : ∃ A n c, v7 = .slice A n c := (by obtain ⟨A, c, e⟩ := OC7.form; exact ⟨A, _, c, e⟩)
      replace BV3 : BlkV w24 w8.heap.size ⟨⟨s0, s1, s2, s3⟩, ⟨i0, ⟨i1, i2, i3, i4⟩, ⟨i5, i6, i7, i8⟩⟩, A, n, c, xs, ⟨t0, t1, t2, t3⟩, ⟨j0, ⟨j1, j2, j3, j4⟩, ⟨j5, j6, j7, j8⟩⟩, B, m, d, ys, ⟨g0, g1, g2, g3⟩, ⟨f0, f1, f2, f3⟩⟩ _ vc2 := BV3.grown hg7 (fun e => by obtain ⟨cur, hcur⟩ := OC3.cells e.symm; exact blk_ne BV3 hcur (by decide) rfl)
      replace OP3 := OP3.same (fun g hg => hg7.block g (OP3.lt g hg).2 (fun e => by obtain ⟨cur, hcur⟩ := OC3.cells e.symm; obtain ⟨cur', hcur'⟩ := OP3.cells hg; exact blk_ne hcur' hcur (by decide) rfl))
      replace HB3 := HB3.grown hg7 HB3.size (fun k hk => (OC3.lt k hk).1)
      clear c37
      have c37 : w24.cell? ⟨w8.heap.size, 37, none⟩ = some vc2 := BV3.cell 37
      clear OC3 BS HS1 hg7
      refine hK.out _ _ ⟨c37, trivial⟩ (fun hHeld => ?_)
      clear hK K
      refine norm_ (a' := ?_) ?_ ?_
      rotate_left
      ·show Act.put _ (some 90) _ = _
       simp only [Act.put, pA, pB, pC]
       rfl
      refine pu 12 91 (bq 15 8191) ?_ ?_ (fun _ => ?_) ?_ ?_
      rotate_left 2
      ·go_simp
       with_reducible rfl
      ·simp only [Act.put, pA, pB, pC]
       rfl
      refine pu 13 92 (bq 15 16383) ?_ ?_ (fun _ => ?_) ?_ ?_
      rotate_left 2
      ·go_simp
       with_reducible rfl
      ·simp only [Act.put, pA, pB, pC]
       rfl
      have f37 : w24.frozen? ⟨w8.heap.size, 37, none⟩ = false := BV3.frozen 37
      refine last_ (i := 14) (N := none) (bq 15 32767) rfl rfl (by kernel_rfl) (by decide) (fun K hK => ?_)
      refine skip_ (w1 := ?_) (by rfl) rfl ?_ ?_
      rotate_left
      ·go_simp
       rfl
      refine hK.out _ _ ?_
      clear hK K
      refine done_ (by kernel_rfl) ?_
      clear hHeld
      go_wp2_with fail
      obtain ⟨A3, c3, rfl⟩ := OP3.form
      have BVf : BlkV (w24.setCell ⟨w8.heap.size, 37, none⟩ (.slice A7 n7 c7)) w8.heap.size ⟨⟨s0, s1, s2, s3⟩, ⟨i0, ⟨i1, i2, i3, i4⟩, ⟨i5, i6, i7, i8⟩⟩, A, n, c, xs, ⟨t0, t1, t2, t3⟩, ⟨j0, ⟨j1, j2, j3, j4⟩, ⟨j5, j6, j7, j8⟩⟩, B, m, d, ys, ⟨g0, g1, g2, g3⟩, ⟨f0, f1, f2, f3⟩⟩ (.slice A3 qs.length c3) (.slice A7 n7 c7) := (by have h := BV3.set_ 37 (.slice A7 n7 c7); rw [pv_set] at h; exact h)
      go_roundw
      case rel =>
       refine ⟨qs, ⟨⟨a0, ⟨a1, a2, a3, a4⟩, ⟨a5, a6, a7, a8⟩⟩, ⟨b0, ⟨b1, b2, b3, b4⟩, ⟨b5, b6, b7, b8⟩⟩⟩ :: rest, by rw [hpr.out]; simp, ⟨_, _, BVf, ?_, ?_, HB3.setCell (p := ⟨w8.heap.size, 37, none⟩) (by show w.heap.size ≤ w8.heap.size; omega) _⟩⟩
       ·exact OP3.same fun g hg => Below.heap_setCell w24 ⟨w8.heap.size, 37, none⟩ _ g (by obtain ⟨cur, hcur⟩ := OP3.cells hg; exact blk_ne hcur BV3 (by decide))
       ·have e : (st2.2 ++ (⟨⟨a0, ⟨a1, a2, a3, a4⟩, ⟨a5, a6, a7, a8⟩⟩, ⟨b0, ⟨b1, b2, b3, b4⟩, ⟨b5, b6, b7, b8⟩⟩⟩ :: rest : List Pr).reverse.map fun p => (⟨p, 1⟩ : Cl)) = cs2 ++ [⟨⟨⟨a0, ⟨a1, a2, a3, a4⟩, ⟨a5, a6, a7, a8⟩⟩, ⟨b0, ⟨b1, b2, b3, b4⟩, ⟨b5, b6, b7, b8⟩⟩⟩, 1⟩] := by rw [← hcs.out]; simp
        rw [e]
        exact OC7.same fun g hg => Below.heap_setCell w24 ⟨w8.heap.size, 37, none⟩ _ g (by obtain ⟨cur, hcur⟩ := OC7.cells hg; exact blk_ne hcur BV3 (by decide))
      case measure =>
       rw [lenAt_eq BVf, hlen0.out]
       omega
 ·skip
  have hz0 := BF.lt
  refine two_ (i := 3) (j := 5) (Ni := some 40) (Nj := some 12) (bq 7 15) (bq 7 39) rfl rfl rfl rfl (by kernel_rfl) (by decide) (by decide) (fun K hK => ?_) (fun K hK => ?_)
  ·skip
   refine goes_ Tryz.func15 (by kernel_rfl) rfl #[.agg #[.i s0, .b s1, .u s2, .i s3, .b i0, .i i1, .b i2, .u i3, .i i4, .i i5, .b i6, .u i7, .i i8, .slice A n c]] (by first | rfl | go_simp) rfl rfl (by simp only [List.map_toArray, List.map_cons, List.map_nil] <;> rfl) ?_
   with_reducible refine (HLX.out _ (hs.on HBd)).mono ?_
   rintro e wv50 ⟨rfl, hb⟩
   refine ⟨_, rfl, ?_⟩
   replace BX := BX.call hb
   replace BY := BY.call hb
   replace BG := BG.call hb
   replace BF := BF.call hb
   replace HBd := bl_trans HBd hb
   have gzwv50 := hb.size
   try simp at gzwv50
   refine hK.out _ _ ⟨BX, BY⟩ (fun hHeld => ?_)
   clear hK K hb
   refine norm_ (a' := ?_) ?_ ?_
   rotate_left
   ·show Act.put _ (some 40) _ = _
    simp only [Act.put, pA, pB, pC]
    rfl
   refine two_ (i := 4) (j := 5) (Ni := some 41) (Nj := some 12) (bq 7 31) (bq 7 47) rfl rfl rfl rfl (by kernel_rfl) (by decide) (by decide) (fun K hK => ?_) (fun K hK => ?_)
   ·skip
    refine goes_ Tryz.func16 (by kernel_rfl) rfl #[.agg #[.i s0, .b s1, .u s2, .i s3], .agg #[.i p0, .b p1, .u p2, .i p3]] (by first | rfl | go_simp) rfl rfl (by simp only [List.map_toArray, List.map_cons, List.map_nil] <;> rfl) ?_
    with_reducible refine (HMK.out _).mono ?_
    rintro e wv51 ⟨rfl, hb⟩
    refine ⟨_, rfl, ?_⟩
    replace BX := BX.call hb
    replace BY := BY.call hb
    replace BG := BG.call hb
    replace BF := BF.call hb
    replace HBd := bl_trans HBd hb
    have gzwv51 := hb.size
    try simp at gzwv51
    refine hK.out _ _ ⟨BX, BY⟩ (fun hHeld => ?_)
    clear hK K hb
    refine norm_ (a' := ?_) ?_ ?_
    rotate_left
    ·show Act.put _ (some 41) _ = _
     simp only [Act.put, pA, pB, pC]
     rfl
    refine on 5 12 (bq 7 63) (fun K hK => ?_)
    refine value_ (v := ?_) (w1 := ?_) (by rfl) rfl ?_ ?_
    rotate_left 2
    ·go_simp
     first | rfl | (constructor <;> rfl)
    replace BX := BX.alloc (.cells #[.b false, .i 0, .b false, .u 0, .i 0, .i 0, .b false, .u 0, .i 0] 34)
    replace BY := BY.alloc (.cells #[.b false, .i 0, .b false, .u 0, .i 0, .i 0, .b false, .u 0, .i 0] 34)
    replace BG := BG.alloc (.cells #[.b false, .i 0, .b false, .u 0, .i 0, .i 0, .b false, .u 0, .i 0] 34)
    replace BF := BF.alloc (.cells #[.b false, .i 0, .b false, .u 0, .i 0, .i 0, .b false, .u 0, .i 0] 34)
    replace HBd := bl_alloc HBd (.cells #[.b false, .i 0, .b false, .u 0, .i 0, .i 0, .b false, .u 0, .i 0] 34)
    have BA := Blk.new wv51  34 #[.b false, .i 0, .b false, .u 0, .i 0, .i 0, .b false, .u 0, .i 0]
    refine hK.out _ _ ⟨BX, BY⟩ (fun hHeld => ?_)
    exact norm_ (by rfl) (hJ wv51.heap.size _ ⟨⟨BX, BY, BG, BF, BA⟩, by omega, HBd⟩)
   ·skip
    refine value_ (v := ?_) (w1 := ?_) (by rfl) rfl ?_ ?_
    rotate_left 2
    ·go_simp
     first | rfl | (constructor <;> rfl)
    replace BX := BX.alloc (.cells #[.b false, .i 0, .b false, .u 0, .i 0, .i 0, .b false, .u 0, .i 0] 34)
    replace BY := BY.alloc (.cells #[.b false, .i 0, .b false, .u 0, .i 0, .i 0, .b false, .u 0, .i 0] 34)
    replace BG := BG.alloc (.cells #[.b false, .i 0, .b false, .u 0, .i 0, .i 0, .b false, .u 0, .i 0] 34)
    replace BF := BF.alloc (.cells #[.b false, .i 0, .b false, .u 0, .i 0, .i 0, .b false, .u 0, .i 0] 34)
    replace HBd := bl_alloc HBd (.cells #[.b false, .i 0, .b false, .u 0, .i 0, .i 0, .b false, .u 0, .i 0] 34)
    have BA := Blk.new wv50  34 #[.b false, .i 0, .b false, .u 0, .i 0, .i 0, .b false, .u 0, .i 0]
    refine hK.out _ _ ⟨BX, BY⟩ (fun hHeld => ?_)
    clear hK K
    refine norm_ (a' := ?_) ?_ ?_
    rotate_left
    ·show Act.put _ (some 12) _ = _
     simp only [Act.put, pA, pB, pC]
     rfl
    refine on 4 41 (bq 7 63) (fun K hK => ?_)
    refine goes_ Tryz.func16 (by kernel_rfl) rfl #[.agg #[.i s0, .b s1, .u s2, .i s3], .agg #[.i p0, .b p1, .u p2, .i p3]] (by first | rfl | go_simp) rfl rfl (by simp only [List.map_toArray, List.map_cons, List.map_nil] <;> rfl) ?_
    with_reducible refine (HMK.out _).mono ?_
    rintro e wv51 ⟨rfl, hb⟩
    refine ⟨_, rfl, ?_⟩
    replace BX := BX.call hb
    replace BY := BY.call hb
    replace BG := BG.call hb
    replace BF := BF.call hb
    replace BA := BA.call hb
    replace HBd := bl_trans HBd hb
    have gzwv51 := hb.size
    try simp at gzwv51
    refine hK.out _ _ ⟨BX, BY⟩ (fun hHeld => ?_)
    exact norm_ (by rfl) (hJ wv50.heap.size _ ⟨⟨BX, BY, BG, BF, BA⟩, by omega, HBd⟩)
  ·skip
   refine value_ (v := ?_) (w1 := ?_) (by rfl) rfl ?_ ?_
   rotate_left 2
   ·go_simp
    first | rfl | (constructor <;> rfl)
   replace BX := BX.alloc (.cells #[.b false, .i 0, .b false, .u 0, .i 0, .i 0, .b false, .u 0, .i 0] 34)
   replace BY := BY.alloc (.cells #[.b false, .i 0, .b false, .u 0, .i 0, .i 0, .b false, .u 0, .i 0] 34)
   replace BG := BG.alloc (.cells #[.b false, .i 0, .b false, .u 0, .i 0, .i 0, .b false, .u 0, .i 0] 34)
   replace BF := BF.alloc (.cells #[.b false, .i 0, .b false, .u 0, .i 0, .i 0, .b false, .u 0, .i 0] 34)
   replace HBd := bl_alloc HBd (.cells #[.b false, .i 0, .b false, .u 0, .i 0, .i 0, .b false, .u 0, .i 0] 34)
   have BA := Blk.new w3  34 #[.b false, .i 0, .b false, .u 0, .i 0, .i 0, .b false, .u 0, .i 0]
   refine hK.out _ _ ⟨BX, BY⟩ (fun hHeld => ?_)
   clear hK K
   refine norm_ (a' := ?_) ?_ ?_
   rotate_left
   ·show Act.put _ (some 12) _ = _
    simp only [Act.put, pA, pB, pC]
    rfl
   refine on 3 40 (bq 7 47) (fun K hK => ?_)
   refine goes_ Tryz.func15 (by kernel_rfl) rfl #[.agg #[.i s0, .b s1, .u s2, .i s3, .b i0, .i i1, .b i2, .u i3, .i i4, .i i5, .b i6, .u i7, .i i8, .slice A n c]] (by first | rfl | go_simp) rfl rfl (by simp only [List.map_toArray, List.map_cons, List.map_nil] <;> rfl) ?_
   with_reducible refine (HLX.out _ (hs.on HBd)).mono ?_
   rintro e wv50 ⟨rfl, hb⟩
   refine ⟨_, rfl, ?_⟩
   replace BX := BX.call hb
   replace BY := BY.call hb
   replace BG := BG.call hb
   replace BF := BF.call hb
   replace BA := BA.call hb
   replace HBd := bl_trans HBd hb
   have gzwv50 := hb.size
   try simp at gzwv50
   refine hK.out _ _ ⟨BX, BY⟩ (fun hHeld => ?_)
   clear hK K hb
   refine norm_ (a' := ?_) ?_ ?_
   rotate_left
   ·show Act.put _ (some 40) _ = _
    simp only [Act.put, pA, pB, pC]
    rfl
   refine on 4 41 (bq 7 63) (fun K hK => ?_)
   refine goes_ Tryz.func16 (by kernel_rfl) rfl #[.agg #[.i s0, .b s1, .u s2, .i s3], .agg #[.i p0, .b p1, .u p2, .i p3]] (by first | rfl | go_simp) rfl rfl (by simp only [List.map_toArray, List.map_cons, List.map_nil] <;> rfl) ?_
   with_reducible refine (HMK.out _).mono ?_
   rintro e wv51 ⟨rfl, hb⟩
   refine ⟨_, rfl, ?_⟩
   replace BX := BX.call hb
   replace BY := BY.call hb
   replace BG := BG.call hb
   replace BF := BF.call hb
   replace BA := BA.call hb
   replace HBd := bl_trans HBd hb
   have gzwv51 := hb.size
   try simp at gzwv51
   refine hK.out _ _ ⟨BX, BY⟩ (fun hHeld => ?_)
   exact norm_ (by rfl) (hJ w3.heap.size _ ⟨⟨BX, BY, BG, BF, BA⟩, by omega, HBd⟩)
def paveOk (X : PvX) : Bool := mayT ⟨X.s, X.i, X.xs⟩ && mayT ⟨X.t, X.j, X.ys⟩ && decide (X.s = X.t) && decide (endT X.s X.xs = endT X.t X.ys)
def allX (X : PvX) : Iv := makeI X.s (endT X.s X.xs)
def PvRes (X : PvX) (bud k : Nat) (l : List Cl) : Prop :=
 (paveOk X = false → l = [] ∧ k = 0) ∧
 (paveOk X = true → k ≤ bud ∧ (∀ j, j < k → (lkN X (allX X) j).1 ≠ []) ∧ (k < bud → (lkN X (allX X) k).1 = []) ∧ l = restC (lkN X (allX X) k))
set_option maxRecDepth 100000 in
theorem pave_calls (X : PvX) (bud : Nat) (w : World) (hk : PvOk w w.heap.size X) (hbud : bud ≤ 2000) :
  Calls Tryz.prog 7 #[.agg (tubC X.s X.i (.slice X.A X.n X.c)).toArray, .agg (tubC X.t X.j (.slice X.B X.m X.d)).toArray, .agg (numC X.g).toArray, .agg (numC X.f).toArray, .i bud] w
   fun e w' => ∃ (v : Value) (k : Nat) (l : List Cl), e = .returned (.tuple #[v, .i k]) ∧ OwnC w' w.heap.size v l ∧ PvRes X bud k l ∧ Below w.heap.size w w' := by
 obtain ⟨hs, ht, wx, wy⟩ := hk
 obtain ⟨⟨s0, s1, s2, s3⟩, ⟨i0, ⟨i1, i2, i3, i4⟩, ⟨i5, i6, i7, i8⟩⟩, A, n, c, xs, ⟨t0, t1, t2, t3⟩, ⟨j0, ⟨j1, j2, j3, j4⟩, ⟨j5, j6, j7, j8⟩⟩, B, m, d, ys, ⟨g0, g1, g2, g3⟩, ⟨f0, f1, f2, f3⟩⟩ := X
 dsimp only at hs ht wx wy
 have hno : ∀ {e : Ending} {w' : World}, paveOk ⟨⟨s0, s1, s2, s3⟩, ⟨i0, ⟨i1, i2, i3, i4⟩, ⟨i5, i6, i7, i8⟩⟩, A, n, c, xs, ⟨t0, t1, t2, t3⟩, ⟨j0, ⟨j1, j2, j3, j4⟩, ⟨j5, j6, j7, j8⟩⟩, B, m, d, ys, ⟨g0, g1, g2, g3⟩, ⟨f0, f1, f2, f3⟩⟩ = false → e = .returned (.tuple #[.slice none 0 0, .i 0]) ∧ Below w.heap.size w w' →
   ∃ (v : Value) (k : Nat) (l : List Cl), e = .returned (.tuple #[v, .i k]) ∧ OwnC w' w.heap.size v l ∧ PvRes ⟨⟨s0, s1, s2, s3⟩, ⟨i0, ⟨i1, i2, i3, i4⟩, ⟨i5, i6, i7, i8⟩⟩, A, n, c, xs, ⟨t0, t1, t2, t3⟩, ⟨j0, ⟨j1, j2, j3, j4⟩, ⟨j5, j6, j7, j8⟩⟩, B, m, d, ys, ⟨g0, g1, g2, g3⟩, ⟨f0, f1, f2, f3⟩⟩ bud k l ∧ Below w.heap.size w w' := by
  rintro e w' hp ⟨rfl, hb⟩
  exact ⟨.slice none 0 0, 0, [], rfl, OwnG.nil _ _, ⟨fun _ => ⟨rfl, rfl⟩, fun h => absurd (hp.symm.trans h) (by decide)⟩, hb⟩
 by_cases h1 : mayT ⟨⟨s0, s1, s2, s3⟩, ⟨i0, ⟨i1, i2, i3, i4⟩, ⟨i5, i6, i7, i8⟩⟩, xs⟩ = true
 rotate_left
 ·replace h1 : mayT ⟨⟨s0, s1, s2, s3⟩, ⟨i0, ⟨i1, i2, i3, i4⟩, ⟨i5, i6, i7, i8⟩⟩, xs⟩ = false := by simpa using h1
  exact (pave_a s0 s1 s2 s3 i0 i1 i2 i3 i4 i5 i6 i7 i8 A n c xs t0 t1 t2 t3 j0 j1 j2 j3 j4 j5 j6 j7 j8 B m d ys g0 g1 g2 g3 f0 f1 f2 f3 bud w hs ht h1).mono fun e w' h => hno (by unfold paveOk; dsimp only; rw [h1]; rfl) h
 by_cases h2 : mayT ⟨⟨t0, t1, t2, t3⟩, ⟨j0, ⟨j1, j2, j3, j4⟩, ⟨j5, j6, j7, j8⟩⟩, ys⟩ = true
 rotate_left
 ·replace h2 : mayT ⟨⟨t0, t1, t2, t3⟩, ⟨j0, ⟨j1, j2, j3, j4⟩, ⟨j5, j6, j7, j8⟩⟩, ys⟩ = false := by simpa using h2
  exact (pave_b s0 s1 s2 s3 i0 i1 i2 i3 i4 i5 i6 i7 i8 A n c xs t0 t1 t2 t3 j0 j1 j2 j3 j4 j5 j6 j7 j8 B m d ys g0 g1 g2 g3 f0 f1 f2 f3 bud w hs ht h1 h2).mono fun e w' h => hno (by unfold paveOk; dsimp only; rw [h1, h2]; rfl) h
 by_cases h3 : decide ((⟨s0, s1, s2, s3⟩ : Num) = ⟨t0, t1, t2, t3⟩) = true
 rotate_left
 ·replace h3 : decide ((⟨s0, s1, s2, s3⟩ : Num) = ⟨t0, t1, t2, t3⟩) = false := by simpa using h3
  exact (pave_c s0 s1 s2 s3 i0 i1 i2 i3 i4 i5 i6 i7 i8 A n c xs t0 t1 t2 t3 j0 j1 j2 j3 j4 j5 j6 j7 j8 B m d ys g0 g1 g2 g3 f0 f1 f2 f3 bud w hs ht h1 h2 h3).mono fun e w' h => hno (by unfold paveOk; dsimp only; rw [h1, h2, h3]; rfl) h
 by_cases h4 : decide (endT ⟨s0, s1, s2, s3⟩ xs = endT ⟨t0, t1, t2, t3⟩ ys) = true
 rotate_left
 ·replace h4 : decide (endT ⟨s0, s1, s2, s3⟩ xs = endT ⟨t0, t1, t2, t3⟩ ys) = false := by simpa using h4
  exact (pave_d s0 s1 s2 s3 i0 i1 i2 i3 i4 i5 i6 i7 i8 A n c xs t0 t1 t2 t3 j0 j1 j2 j3 j4 j5 j6 j7 j8 B m d ys g0 g1 g2 g3 f0 f1 f2 f3 bud w hs ht h1 h2 h3 h4).mono fun e w' h => hno (by unfold paveOk; dsimp only; rw [h1, h2, h3, h4]; rfl) h
 refine (pave_main s0 s1 s2 s3 i0 i1 i2 i3 i4 i5 i6 i7 i8 A n c xs t0 t1 t2 t3 j0 j1 j2 j3 j4 j5 j6 j7 j8 B m d ys g0 g1 g2 g3 f0 f1 f2 f3 bud w hs ht h1 h2 h3 h4 wx wy hbud).mono ?_
 rintro e w' ⟨v, k, he, ⟨p1, p2, p3, p4⟩, hb⟩
 exact ⟨v, k, _, he, p4, ⟨fun h => absurd ((show paveOk _ = true by unfold paveOk; dsimp only; rw [h1, h2, h3, h4]; rfl).symm.trans h) (by decide), fun _ => ⟨p1, p2, p3, rfl⟩⟩, hb⟩
end Go.Proofs.YteabdeohhmbclaaGreat.Wk
