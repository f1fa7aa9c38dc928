/- Walk: codec.Decode. -/
import Derived.Test.YtakajahogjeiaabDecA
namespace Go.Proofs.Ytakajahogjeiaab.Wk
open Go.RowKit Go.Proofs.Pl Go.Proofs.YtakajahogjeiaabW.PrintLast
set_option linter.unusedSimpArgs false
set_option linter.unusedVariables false

def lenV : Value → Nat
  | .slice _ n _ => n
  | _ => 0
theorem Rd.c0 {w : World} {B p : Nat} {bs : List Int} {bad : Bool} (h : Rd w B p bs bad) : (∃ A c, w.cell? ⟨p, 0, none⟩ = some (.slice A bs.length c)) ∧ w.cell? ⟨p, 1, none⟩ = some (.bool bad) := by
  obtain ⟨h1, h2, t, A, c, hb, hS, h3, h4⟩ := h
  exact ⟨⟨A, c, hb.cell 0⟩, hb.cell 1⟩
theorem opCells_size (x : Op) : (opCells x).toArray.size = 32 := rfl
theorem Rd.app {w w' : World} {B p : Nat} {bs : List Int} {bad : Bool} {row : Option Nat} (h : Rd w B p bs bad) (hg : w.grownBy w' row) (hp : row ≠ some p) (hr : ∀ k, row = some k → B ≤ k) : Rd w' B p bs bad := by
  obtain ⟨h1, h2, t, A, c, hb, hS, h3, h4⟩ := h
  have hl := Blk.lt hb
  exact ⟨h1, h2, t, A, c, hb.grown hg (fun e => hp e.symm), hS.keep fun b o hlt => World.cell?_of_block (hg.block b (by omega) (by intro e; have := hr _ e.symm; omega)), h3, h4⟩
theorem decF_nil {f : Nat} {l : List Op} (h : 0 < f) : decF f l [] = (l, 0) := by
  cases f with
  | zero => omega
  | succ f => simp [decF]
theorem decF_long {f : Nat} {l : List Op} {bs : List Int} (h : 0 < f) (hb : bs ≠ []) (hl : 256 ≤ l.length) : decF f l bs = ([], 3) := by
  cases f with
  | zero => omega
  | succ f => unfold decF; rw [if_neg hb, if_pos hl]
theorem decF_more {l : List Op} {bs : List Int} (h : l.length < 256) (hb : bs ≠ []) (hl : ¬ 256 ≤ l.length) :
    decF (257 - l.length) l bs = if ((rdO bs).2.2 || !mayOp (rdO bs).1) = true then ([], 2) else decF (257 - (l.length + 1)) (l ++ [(rdO bs).1]) (rdO bs).2.1 := by
  have e : 257 - l.length = (257 - (l.length + 1)) + 1 := by omega
  rw [e]
  rw [decF, if_neg hb, if_neg hl]
theorem grown_below2 {B : Nat} {w0 W W1 : World} {o : Obj} {g : Nat} (h : Below B w0 W) (k : (W.alloc o).grownBy W1 (some g)) (hg : B ≤ W.heap.size ∧ B ≤ g) : Below B w0 W1 :=
  grown_below (h.alloc hg.1 o) k (by simp; omega) hg.2
/-- the reader's box, made of bytes that lie below -/
theorem Rd.made {w W : World} {p : Nat} {t : TypeId} {A : Option Addr} {n c : Nat} {bs : List Int} (hs : SlB w w.heap.size A n bs) (hby : Byt bs) (hc : n ≤ c) (hcm : c ≤ 9223372036854775807) (hB : Blk W p t #[.slice A n c, .bool false]) (hg : w.grownBy W (some p)) (hp : w.heap.size ≤ p) : Rd W w.heap.size p bs false := by
  have h1 := hs.1
  subst h1
  exact ⟨hp, hby, t, A, c, hB, hs.grown (Nat.le_refl _) hp hg, hc, hcm⟩
set_option maxRecDepth 100000 in
set_option maxHeartbeats 8000000 in
theorem decode_calls (A : Option Addr) (n c : Nat) (bs : List Int) (w : World) (hs : SlB w w.heap.size A n bs) (hby : Byt bs) (hc : n ≤ c) (hcm : c ≤ 9223372036854775807) :
    Calls Try.prog 24 #[.slice A n c] w fun e w' => ∃ A' c', e = .returned (.tuple #[.slice A' (decO bs).1.length c', .int .i64 (decO bs).2]) ∧ SlO w' w'.heap.size A' (decO bs).1.length (decO bs).1 ∧ Below w.heap.size w w' := by
  go_enter Try.func24, Try.ntmps24
  go_wp2_with (refine wpList_storeG rfl 92 (.tmp 4) (.tmp 9) rfl w.heap.size _ #[.slice A n c, .bool false] (Blk.new w _ _) rfl rfl (by kernel_rfl) rfl (by simp [Value.oneCell']) ?_; intro W1 B1 G1 hs1; have HG1 := grown_new (r := none) (grown_alloc (World.grownBy.refl w none) _) G1 (Nat.le_refl _); have R1 := Rd.made hs hby hc hcm B1 (grown_new (grown_alloc (World.grownBy.refl w (some w.heap.size)) _) G1 (Nat.le_refl _)) (Nat.le_refl _))
  have HB1 : Below w.heap.size w W1 := ⟨HG1.1, HG1.2, HG1.3, HG1.4, fun k hk => HG1.5 k hk (by simp)⟩
  go_loopw [5, 6] (fun v _ wr => ∃ (l : List Op) (bs' : List Int), decF (257 - l.length) l bs' = decO bs ∧ l.length ≤ 256 ∧ Rd wr w.heap.size w.heap.size bs' false ∧ OwnO wr (w.heap.size + 1) v l ∧ Below w.heap.size w wr) (fun v _ _ => 257 - lenV v)
  case atStart => exact ⟨[], bs, rfl, by simp, R1, OwnO.nil _ _, HB1⟩
  case round =>
    obtain ⟨l, bs', hdec, hl, R, O, HB⟩ := hrel
    obtain ⟨A', c', rfl, S⟩ := O.sl
    by_cases hb0 : bs' = []
    · subst hb0
      rw [decF_nil (by omega)] at hdec
      obtain ⟨⟨A2, c2, q0⟩, q1⟩ := R.c0
      rw [List.length_nil] at q0
      go_wp2
      go_ret2
      rw [← hdec]
      exact ⟨A', c', rfl, S, HB⟩
    · have hnb : 0 < bs'.length := List.length_pos_iff.2 hb0
      obtain ⟨⟨A2, c2, q0⟩, q1⟩ := R.c0
      have hnbi : (0 : Int) < (bs'.length : Int) := by omega
      by_cases h256 : l.length = 256
      · rw [decF_long (by omega) hb0 (by omega)] at hdec
        generalize bs'.length = nb at q0 hnbi
        generalize l.length = nl at h256 S O ⊢
        subst h256
        go_wp2
        go_ret2
        rw [← hdec]
        exact ⟨none, 0, rfl, ⟨rfl, fun h => absurd h (by simp)⟩, HB⟩
      · have hln : ¬ ((l.length : Int) = 256) := by omega
        have hlb : ((l.length : Int) == 256) = false := beq_eq_false_iff_ne.2 hln
        obtain ⟨m, hm1, hm2⟩ := tk_one bs'
        obtain ⟨t, r1, b1, e1⟩ := ex3' (rdN (dr 1 bs'))
        obtain ⟨x, r2, b2, e2⟩ := ex3' (rdI r1)
        obtain ⟨y, r3, b3, e3⟩ := ex3' (rdI r2)
        obtain ⟨z, r4, b4, e4⟩ := ex3' (rdI r3)
        have hO := rdO_of e1 e2 e3 e4
        rw [hm2] at hO
        have hmr : 0 ≤ m ∧ m < 256 := ((show Byt bs' from R.2.1).tk 1) m (by rw [hm1]; simp)
        obtain ⟨hmr0, hmr1⟩ := hmr
        have HT := Lib.hid (take1_calls w.heap.size w.heap.size bs' false m hm1 wr R)
        have HN := Lib.hid (fun bad W h => cnum_calls w.heap.size w.heap.size (dr 1 bs') bad W h)
        have HI1 := Lib.hid (fun bad W h => civ_calls w.heap.size w.heap.size r1 bad W h)
        have HI2 := Lib.hid (fun bad W h => civ_calls w.heap.size w.heap.size r2 bad W h)
        have HI3 := Lib.hid (fun bad W h => civ_calls w.heap.size w.heap.size r3 bad W h)
        rw [e1] at HN
        rw [e2] at HI1
        rw [e3] at HI2
        rw [e4] at HI3
        dsimp only at HN HI1 HI2 HI3
        have HM := Lib.hid (fun W => mayOp_calls ⟨m, t, x, y, z⟩ W)
        obtain ⟨bb, hbb⟩ : ∃ bb, (((((false || sh 1 bs') || b1) || b2) || b3) || b4) = bb := ⟨_, rfl⟩
        have Hbb := Lib.hid hbb
        have hbb' : ((((sh 1 bs' || b1) || b2) || b3) || b4) = bb := by rw [← hbb, Bool.false_or]
        obtain ⟨my, hmy⟩ : ∃ my, mayOp ⟨m, t, x, y, z⟩ = my := ⟨_, rfl⟩
        rw [hmy] at HM
        rw [decF_more (by omega) hb0 (by omega), hO] at hdec
        dsimp only at hdec
        rw [hbb', hmy] at hdec
        generalize bs'.length = nb at q0 hnbi hnb
        have Hdec := Lib.hid hdec
        have Hhm := Lib.hid hm1
        have Hl := Lib.hid (show l.length ≤ 256 ∧ l.length ≠ 256 from ⟨hl, h256⟩)
        clear hdec hm1 hm2 e1 e2 e3 e4 hO hbb hbb' hmy hb0 hs hby hnb hl h256 hln
        have hpw : w.heap.size < wr.heap.size := R.lt
        have HB0 := Lib.hid HB
        have Hob := Lib.hid O.past
        cases bb <;> cases my
        all_goals
          go_wp2_with (first
            | (go_at_call 72; ((with_reducible refine HT.out.mono ?_); rintro e w1 ⟨f1, off1, rfl, hf1, q2, R1, G1⟩; have O1 := O.far G1 (Or.inl (Nat.lt_succ_self _)); have HB1 := grown_below HB G1 (Nat.le_of_lt hpw) (Nat.le_refl _); have hs1 := G1.size; clear HT q0 q1))
            | (refine wpList_storeG rfl 82 (.tmp 6) (.tmp 23) rfl w1.heap.size _ (opCells ⟨m, ⟨0, false, 0, 0⟩, ⟨false, ⟨0, false, 0, 0⟩, ⟨0, false, 0, 0⟩⟩, ⟨false, ⟨0, false, 0, 0⟩, ⟨0, false, 0, 0⟩⟩, ⟨false, ⟨0, false, 0, 0⟩, ⟨0, false, 0, 0⟩⟩⟩).toArray (Blk.new w1 _ _) rfl rfl (by kernel_rfl) rfl (opCells_one _) ?_; intro W2 X2 G2 hs2; have R2 := (R1.alloc _).far' G2 (by omega); have O2 := O1.fresh G2; have HB2 := grown_below2 HB1 G2 (by omega); have hs2' : W2.heap.size = w1.heap.size + 1 := by rw [hs2]; simp)
            | (go_at_call 73; ((with_reducible refine (HN.out _ _ R2).mono ?_); rintro e w3 ⟨rfl, R3, G3⟩; have X3 := X2.grown G3 (by simp; omega); have O3 := O2.far G3 (Or.inl (Nat.lt_succ_self _)); have HB3 := grown_below HB2 G3 (by omega) (Nat.le_refl _); have hs3 := G3.size))
            | (refine wpList_storeM rfl 24 (.tmp 25) (.tmp 24) rfl w1.heap.size 1 _ _ #[.int .i64 t.k, .bool t.n, .int .u64 t.m, .int .i64 t.e] (opCells ⟨m, t, ⟨false, ⟨0, false, 0, 0⟩, ⟨0, false, 0, 0⟩⟩, ⟨false, ⟨0, false, 0, 0⟩, ⟨0, false, 0, 0⟩⟩, ⟨false, ⟨0, false, 0, 0⟩, ⟨0, false, 0, 0⟩⟩⟩).toArray X3 rfl rfl (by kernel_rfl) (by rw [opCells_size]; simp) (by simp [Value.oneCell']) (putOt _ _ _ _ _ _) ?_; intro W4 X4 G4 hs4; have R4 := R3.far' G4 (by omega); have O4 := O3.farN G4 (Hob.out _ (by omega)); have HB4 := grown_below HB3 G4 (by omega) (by omega))
            | (go_at_call 74; first
              | ((with_reducible refine (HI1.out _ _ R4).mono ?_); rintro e w5 ⟨rfl, R5, G5⟩; have X5 := X4.grown G5 (by simp; omega); have O5 := O4.far G5 (Or.inl (Nat.lt_succ_self _)); have HB5 := grown_below HB4 G5 (by omega) (Nat.le_refl _); have hs5 := G5.size)
              | ((with_reducible refine (HI2.out _ _ R5).mono ?_); rintro e w6 ⟨rfl, R6, G6⟩; have X6 := X5.grown G6 (by simp; omega); have O6 := O5.far G6 (Or.inl (Nat.lt_succ_self _)); have HB6 := grown_below HB5 G6 (by omega) (Nat.le_refl _); have hs6 := G6.size)
              | ((with_reducible refine (HI3.out _ _ R6).mono ?_); rintro e w7 ⟨rfl, R7, G7⟩; have X7 := X6.grown G7 (by simp; omega); have O7 := O6.far G7 (Or.inl (Nat.lt_succ_self _)); have HB7 := grown_below HB6 G7 (by omega) (Nat.le_refl _); have hs7 := G7.size))
            | (refine wpList_storeM rfl 26 (.tmp 29) (.tmp 26) rfl w1.heap.size 5 _ _ #[.bool x.emp, .int .i64 x.lo.k, .bool x.lo.n, .int .u64 x.lo.m, .int .i64 x.lo.e, .int .i64 x.hi.k, .bool x.hi.n, .int .u64 x.hi.m, .int .i64 x.hi.e] (opCells ⟨m, t, x, ⟨false, ⟨0, false, 0, 0⟩, ⟨0, false, 0, 0⟩⟩, ⟨false, ⟨0, false, 0, 0⟩, ⟨0, false, 0, 0⟩⟩⟩).toArray X7 rfl rfl (by kernel_rfl) (by rw [opCells_size]; simp) (by simp [Value.oneCell']) (putOa _ _ _ _ _ _) ?_; intro W8 X8 G8 hs8; have R8 := R7.far' G8 (by omega); have O8 := O7.farN G8 (Hob.out _ (by omega)); have HB8 := grown_below HB7 G8 (by omega) (by omega))
            | (refine wpList_storeM rfl 26 (.tmp 30) (.tmp 27) rfl w1.heap.size 14 _ _ #[.bool y.emp, .int .i64 y.lo.k, .bool y.lo.n, .int .u64 y.lo.m, .int .i64 y.lo.e, .int .i64 y.hi.k, .bool y.hi.n, .int .u64 y.hi.m, .int .i64 y.hi.e] (opCells ⟨m, t, x, y, ⟨false, ⟨0, false, 0, 0⟩, ⟨0, false, 0, 0⟩⟩⟩).toArray X8 rfl rfl (by kernel_rfl) (by rw [opCells_size]; simp) (by simp [Value.oneCell']) (putOb _ _ _ _ _ _) ?_; intro W9 X9 G9 hs9; have R9 := R8.far' G9 (by omega); have O9 := O8.farN G9 (Hob.out _ (by omega)); have HB9 := grown_below HB8 G9 (by omega) (by omega))
            | (refine wpList_storeM rfl 26 (.tmp 31) (.tmp 28) rfl w1.heap.size 23 _ _ #[.bool z.emp, .int .i64 z.lo.k, .bool z.lo.n, .int .u64 z.lo.m, .int .i64 z.lo.e, .int .i64 z.hi.k, .bool z.hi.n, .int .u64 z.hi.m, .int .i64 z.hi.e] (opCells ⟨m, t, x, y, z⟩).toArray X9 rfl rfl (by kernel_rfl) (by rw [opCells_size]; simp) (by simp [Value.oneCell']) (putOc _ _ _ _ _ _) ?_; intro W10 X10 G10 hs10; have R10 := R9.far' G10 (by omega); have O10 := O9.farN G10 (Hob.out _ (by omega)); have HB10 := grown_below HB9 G10 (by omega) (by omega); rw [Hbb.out] at R10; obtain ⟨q1, q2⟩ := R10.cbad)
            | (refine wpList_loadOpG (by rfl) (.tmp 6) rfl w1.heap.size rfl ⟨m, t, x, y, z⟩ X10 ?_)
            | (go_at_call 75; (with_reducible refine (HM.out _).mono ?_); rintro e w11 ⟨rfl, hb⟩; have X11 := X10.call hb; have R11 := R10.below hb; have O11 := O10.call hb; have HB11 := HB10.trans (hb.mono (by omega)); have hs11 := hb.size; clear hb)
            | (refine wpList_loadOpG (by rfl) (.tmp 6) rfl w1.heap.size rfl ⟨m, t, x, y, z⟩ X11 ?_)
            | (refine wpList_lit1O rfl (.tmp 41) rfl ⟨m, t, x, y, z⟩ rfl ?_)
            | (at_builtin; refine wpList_appO rfl (.tmp 40) (.tmp 42) rfl (w.heap.size + 1) _ l rfl (O11.call ((Below.refl _ _).alloc (Nat.le_refl _) _)) (w11.heap.size + 1) w11.heap.size 0 1 1 [⟨m, t, x, y, z⟩] rfl (SlO.lit1 (Blk.new w11 _ _) (Nat.lt_succ_self _)) (by have := Hl.out.1; simp; omega) (by simp; omega) ?_; intro v12 w12 O12 G12; have hs12 := G12.size))
        · have hd : decO bs = ([], 2) := by rw [← Hdec.out]; rfl
          go_ret2
          rw [hd]
          exact ⟨none, 0, rfl, ⟨rfl, fun h => absurd h (by simp)⟩, HB11⟩
        · have hd : decF (257 - (l.length + 1)) (l ++ [⟨m, t, x, y, z⟩]) r4 = decO bs := Hdec.out
          have hol := O11.lt
          have R12 := (R11.alloc (.cells (opCells ⟨m, t, x, y, z⟩).toArray 82)).app G12 (by intro e; have := hol _ e; omega) (fun k e => by have := hol k e; omega)
          have HB12 := (HB11.alloc (by omega) (.cells (opCells ⟨m, t, x, y, z⟩).toArray 82)).grown G12 (by simp; omega) (fun k e => by have := hol k e; omega)
          obtain ⟨hl1, hl2⟩ := Hl.out
          obtain ⟨A9, c9, rfl, _⟩ := O12.sl
          refine ⟨⟨l ++ [⟨m, t, x, y, z⟩], r4, by rw [List.length_append]; exact hd, by rw [List.length_append]; simp; omega, R12, O12, HB12⟩, ?_⟩
          simp only [lenV, List.length_append, List.length_singleton]
          omega
        · have hd : decO bs = ([], 2) := by rw [← Hdec.out]; rfl
          go_ret2
          rw [hd]
          exact ⟨none, 0, rfl, ⟨rfl, fun h => absurd h (by simp)⟩, HB10⟩
        · have hd : decO bs = ([], 2) := by rw [← Hdec.out]; rfl
          go_ret2
          rw [hd]
          exact ⟨none, 0, rfl, ⟨rfl, fun h => absurd h (by simp)⟩, HB10⟩
end Go.Proofs.Ytakajahogjeiaab.Wk
