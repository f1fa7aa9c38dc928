/- Walk: codec.EncodeTube, for every tube. -/
import Derived.Test.YtakajahogjeiaabTubB
namespace Go.Proofs.Ytakajahogjeiaab.Wk
open Go.RowKit Go.Proofs.Pl Go.Proofs.YtakajahogjeiaabW.PrintLast
set_option linter.unusedSimpArgs false
set_option linter.unusedVariables false

def encSlc (x : Slc) : List Int := encN x.e ++ encI x.a ++ encI x.o
def encSs (l : List Slc) : List Int := l.flatMap encSlc
def encT (t : Tb) : List Int := [(t.l.length : Int)] ++ encN t.s ++ encI t.i ++ encSs t.l
def encTAll (t : Tb) : List Int := if mayT t = true then encT t else []
def encTErr (t : Tb) : Int := if mayT t = true then 0 else 1
def L0ofs (a b c : List Int) : List Int := a ++ b ++ c
theorem encSs_snoc (l : List Slc) (x : Slc) : encSs (l ++ [x]) = encSs l ++ encSlc x := by simp [encSs]
theorem encSlc_length (x : Slc) : (encSlc x).length ≤ 67 := by
  have h1 := encN_length x.e
  have h2 := encI_length x.a
  have h3 := encI_length x.o
  simp only [encSlc, List.length_append]
  omega
theorem encSs_length (l : List Slc) : (encSs l).length ≤ 67 * l.length := by
  induction l with
  | nil => simp [encSs]
  | cons a l ih =>
    have := encSlc_length a
    simp only [encSs, List.flatMap_cons, List.length_append, List.length_cons] at ih ⊢
    omega
theorem mayT_len {t : Tb} (h : mayT t = true) : t.l.length ≤ 64 := by
  unfold mayT at h
  simp only [Bool.and_eq_true, decide_eq_true_eq] at h
  exact h.1.2
theorem ivs1 (x0 : Iv) : ∀ (i : Nat) (x : Iv), [x0][i]? = some x → (#[.bool x0.emp, .int .i64 x0.lo.k, .bool x0.lo.n, .int .u64 x0.lo.m, .int .i64 x0.lo.e, .int .i64 x0.hi.k, .bool x0.hi.n, .int .u64 x0.hi.m, .int .i64 x0.hi.e] : Array Value)[i * 9]? = some (.bool x.emp) ∧ (#[.bool x0.emp, .int .i64 x0.lo.k, .bool x0.lo.n, .int .u64 x0.lo.m, .int .i64 x0.lo.e, .int .i64 x0.hi.k, .bool x0.hi.n, .int .u64 x0.hi.m, .int .i64 x0.hi.e] : Array Value)[i * 9 + 1]? = some (.int .i64 x.lo.k) ∧ (#[.bool x0.emp, .int .i64 x0.lo.k, .bool x0.lo.n, .int .u64 x0.lo.m, .int .i64 x0.lo.e, .int .i64 x0.hi.k, .bool x0.hi.n, .int .u64 x0.hi.m, .int .i64 x0.hi.e] : Array Value)[i * 9 + 2]? = some (.bool x.lo.n) ∧ (#[.bool x0.emp, .int .i64 x0.lo.k, .bool x0.lo.n, .int .u64 x0.lo.m, .int .i64 x0.lo.e, .int .i64 x0.hi.k, .bool x0.hi.n, .int .u64 x0.hi.m, .int .i64 x0.hi.e] : Array Value)[i * 9 + 3]? = some (.int .u64 x.lo.m) ∧ (#[.bool x0.emp, .int .i64 x0.lo.k, .bool x0.lo.n, .int .u64 x0.lo.m, .int .i64 x0.lo.e, .int .i64 x0.hi.k, .bool x0.hi.n, .int .u64 x0.hi.m, .int .i64 x0.hi.e] : Array Value)[i * 9 + 4]? = some (.int .i64 x.lo.e) ∧ (#[.bool x0.emp, .int .i64 x0.lo.k, .bool x0.lo.n, .int .u64 x0.lo.m, .int .i64 x0.lo.e, .int .i64 x0.hi.k, .bool x0.hi.n, .int .u64 x0.hi.m, .int .i64 x0.hi.e] : Array Value)[i * 9 + 5]? = some (.int .i64 x.hi.k) ∧ (#[.bool x0.emp, .int .i64 x0.lo.k, .bool x0.lo.n, .int .u64 x0.lo.m, .int .i64 x0.lo.e, .int .i64 x0.hi.k, .bool x0.hi.n, .int .u64 x0.hi.m, .int .i64 x0.hi.e] : Array Value)[i * 9 + 6]? = some (.bool x.hi.n) ∧ (#[.bool x0.emp, .int .i64 x0.lo.k, .bool x0.lo.n, .int .u64 x0.lo.m, .int .i64 x0.lo.e, .int .i64 x0.hi.k, .bool x0.hi.n, .int .u64 x0.hi.m, .int .i64 x0.hi.e] : Array Value)[i * 9 + 7]? = some (.int .u64 x.hi.m) ∧ (#[.bool x0.emp, .int .i64 x0.lo.k, .bool x0.lo.n, .int .u64 x0.lo.m, .int .i64 x0.lo.e, .int .i64 x0.hi.k, .bool x0.hi.n, .int .u64 x0.hi.m, .int .i64 x0.hi.e] : Array Value)[i * 9 + 8]? = some (.int .i64 x.hi.e) := by
  intro i x h
  match i, h with
  | 0, h => cases h; exact ⟨rfl, rfl, rfl, rfl, rfl, rfl, rfl, rfl, rfl⟩
  | i + 1, h => simp at h
theorem ivs2 (x0 x1 : Iv) : ∀ (i : Nat) (x : Iv), [x0, x1][i]? = some x → (#[.bool x0.emp, .int .i64 x0.lo.k, .bool x0.lo.n, .int .u64 x0.lo.m, .int .i64 x0.lo.e, .int .i64 x0.hi.k, .bool x0.hi.n, .int .u64 x0.hi.m, .int .i64 x0.hi.e, .bool x1.emp, .int .i64 x1.lo.k, .bool x1.lo.n, .int .u64 x1.lo.m, .int .i64 x1.lo.e, .int .i64 x1.hi.k, .bool x1.hi.n, .int .u64 x1.hi.m, .int .i64 x1.hi.e] : Array Value)[i * 9]? = some (.bool x.emp) ∧ (#[.bool x0.emp, .int .i64 x0.lo.k, .bool x0.lo.n, .int .u64 x0.lo.m, .int .i64 x0.lo.e, .int .i64 x0.hi.k, .bool x0.hi.n, .int .u64 x0.hi.m, .int .i64 x0.hi.e, .bool x1.emp, .int .i64 x1.lo.k, .bool x1.lo.n, .int .u64 x1.lo.m, .int .i64 x1.lo.e, .int .i64 x1.hi.k, .bool x1.hi.n, .int .u64 x1.hi.m, .int .i64 x1.hi.e] : Array Value)[i * 9 + 1]? = some (.int .i64 x.lo.k) ∧ (#[.bool x0.emp, .int .i64 x0.lo.k, .bool x0.lo.n, .int .u64 x0.lo.m, .int .i64 x0.lo.e, .int .i64 x0.hi.k, .bool x0.hi.n, .int .u64 x0.hi.m, .int .i64 x0.hi.e, .bool x1.emp, .int .i64 x1.lo.k, .bool x1.lo.n, .int .u64 x1.lo.m, .int .i64 x1.lo.e, .int .i64 x1.hi.k, .bool x1.hi.n, .int .u64 x1.hi.m, .int .i64 x1.hi.e] : Array Value)[i * 9 + 2]? = some (.bool x.lo.n) ∧ (#[.bool x0.emp, .int .i64 x0.lo.k, .bool x0.lo.n, .int .u64 x0.lo.m, .int .i64 x0.lo.e, .int .i64 x0.hi.k, .bool x0.hi.n, .int .u64 x0.hi.m, .int .i64 x0.hi.e, .bool x1.emp, .int .i64 x1.lo.k, .bool x1.lo.n, .int .u64 x1.lo.m, .int .i64 x1.lo.e, .int .i64 x1.hi.k, .bool x1.hi.n, .int .u64 x1.hi.m, .int .i64 x1.hi.e] : Array Value)[i * 9 + 3]? = some (.int .u64 x.lo.m) ∧ (#[.bool x0.emp, .int .i64 x0.lo.k, .bool x0.lo.n, .int .u64 x0.lo.m, .int .i64 x0.lo.e, .int .i64 x0.hi.k, .bool x0.hi.n, .int .u64 x0.hi.m, .int .i64 x0.hi.e, .bool x1.emp, .int .i64 x1.lo.k, .bool x1.lo.n, .int .u64 x1.lo.m, .int .i64 x1.lo.e, .int .i64 x1.hi.k, .bool x1.hi.n, .int .u64 x1.hi.m, .int .i64 x1.hi.e] : Array Value)[i * 9 + 4]? = some (.int .i64 x.lo.e) ∧ (#[.bool x0.emp, .int .i64 x0.lo.k, .bool x0.lo.n, .int .u64 x0.lo.m, .int .i64 x0.lo.e, .int .i64 x0.hi.k, .bool x0.hi.n, .int .u64 x0.hi.m, .int .i64 x0.hi.e, .bool x1.emp, .int .i64 x1.lo.k, .bool x1.lo.n, .int .u64 x1.lo.m, .int .i64 x1.lo.e, .int .i64 x1.hi.k, .bool x1.hi.n, .int .u64 x1.hi.m, .int .i64 x1.hi.e] : Array Value)[i * 9 + 5]? = some (.int .i64 x.hi.k) ∧ (#[.bool x0.emp, .int .i64 x0.lo.k, .bool x0.lo.n, .int .u64 x0.lo.m, .int .i64 x0.lo.e, .int .i64 x0.hi.k, .bool x0.hi.n, .int .u64 x0.hi.m, .int .i64 x0.hi.e, .bool x1.emp, .int .i64 x1.lo.k, .bool x1.lo.n, .int .u64 x1.lo.m, .int .i64 x1.lo.e, .int .i64 x1.hi.k, .bool x1.hi.n, .int .u64 x1.hi.m, .int .i64 x1.hi.e] : Array Value)[i * 9 + 6]? = some (.bool x.hi.n) ∧ (#[.bool x0.emp, .int .i64 x0.lo.k, .bool x0.lo.n, .int .u64 x0.lo.m, .int .i64 x0.lo.e, .int .i64 x0.hi.k, .bool x0.hi.n, .int .u64 x0.hi.m, .int .i64 x0.hi.e, .bool x1.emp, .int .i64 x1.lo.k, .bool x1.lo.n, .int .u64 x1.lo.m, .int .i64 x1.lo.e, .int .i64 x1.hi.k, .bool x1.hi.n, .int .u64 x1.hi.m, .int .i64 x1.hi.e] : Array Value)[i * 9 + 7]? = some (.int .u64 x.hi.m) ∧ (#[.bool x0.emp, .int .i64 x0.lo.k, .bool x0.lo.n, .int .u64 x0.lo.m, .int .i64 x0.lo.e, .int .i64 x0.hi.k, .bool x0.hi.n, .int .u64 x0.hi.m, .int .i64 x0.hi.e, .bool x1.emp, .int .i64 x1.lo.k, .bool x1.lo.n, .int .u64 x1.lo.m, .int .i64 x1.lo.e, .int .i64 x1.hi.k, .bool x1.hi.n, .int .u64 x1.hi.m, .int .i64 x1.hi.e] : Array Value)[i * 9 + 8]? = some (.int .i64 x.hi.e) := by
  intro i x h
  match i, h with
  | 0, h => cases h; exact ⟨rfl, rfl, rfl, rfl, rfl, rfl, rfl, rfl, rfl⟩
  | 1, h => cases h; exact ⟨rfl, rfl, rfl, rfl, rfl, rfl, rfl, rfl, rfl⟩
  | i + 2, h => simp at h
theorem OwnB.lit1 {w : World} {base g : Nat} {x : Int} (h : Blk w g 5 #[.int .u8 x]) (hb : base ≤ g) : OwnB w base (.slice (some ⟨g, 0, none⟩) 1 1) [x] :=
  ⟨rfl, .inr ⟨g, 1, #[.int .u8 x], rfl, hb, h, Nat.le_refl _, by decide, rfl, rfl⟩⟩

set_option maxRecDepth 100000 in
set_option maxHeartbeats 8000000 in
theorem enct_calls (s0 : Int) (s1 : Bool) (s2 s3 : Int) (i0 : Bool) (i1 : Int) (i2 : Bool) (i3 i4 i5 : Int) (i6 : Bool) (i7 i8 : Int) (A : Option Addr) (n c : Nat) (xs : List Slc) (w : World) (hs : SlT w w.heap.size A n xs) :
    Calls Try.prog 22 #[.agg #[.int .i64 s0, .bool s1, .int .u64 s2, .int .i64 s3, .bool i0, .int .i64 i1, .bool i2, .int .u64 i3, .int .i64 i4, .int .i64 i5, .bool i6, .int .u64 i7, .int .i64 i8, .slice A n c]] w fun e w' => ∃ A' c', e = .returned (.tuple #[.slice A' (encTAll ⟨⟨s0, s1, s2, s3⟩, ⟨i0, ⟨i1, i2, i3, i4⟩, ⟨i5, i6, i7, i8⟩⟩, xs⟩).length c', .int .i64 (encTErr ⟨⟨s0, s1, s2, s3⟩, ⟨i0, ⟨i1, i2, i3, i4⟩, ⟨i5, i6, i7, i8⟩⟩, xs⟩)]) ∧ SlB w' w'.heap.size A' (encTAll ⟨⟨s0, s1, s2, s3⟩, ⟨i0, ⟨i1, i2, i3, i4⟩, ⟨i5, i6, i7, i8⟩⟩, xs⟩).length (encTAll ⟨⟨s0, s1, s2, s3⟩, ⟨i0, ⟨i1, i2, i3, i4⟩, ⟨i5, i6, i7, i8⟩⟩, xs⟩) ∧ Below w.heap.size w w' := by
  have HL0 := bl_alloc (Below.refl w.heap.size w) (.cells #[.int .i64 s0, .bool s1, .int .u64 s2, .int .i64 s3, .bool i0, .int .i64 i1, .bool i2, .int .u64 i3, .int .i64 i4, .int .i64 i5, .bool i6, .int .u64 i7, .int .i64 i8, .slice A n c] 34)
  have BT0 := Blk.new w 34 #[.int .i64 s0, .bool s1, .int .u64 s2, .int .i64 s3, .bool i0, .int .i64 i1, .bool i2, .int .u64 i3, .int .i64 i4, .int .i64 i5, .bool i6, .int .u64 i7, .int .i64 i8, .slice A n c]
  have HM := Lib.hid (fun W h => tmay_calls s0 s1 s2 s3 i0 i1 i2 i3 i4 i5 i6 i7 i8 A n c xs W h)
  have hs0 := (hs.below HL0).more HL0.size
  unfold encTAll encTErr
  generalize hmt : mayT ⟨⟨s0, s1, s2, s3⟩, ⟨i0, ⟨i1, i2, i3, i4⟩, ⟨i5, i6, i7, i8⟩⟩, xs⟩ = mt at HM ⊢
  cases mt
  · simp only [Bool.false_eq_true, if_false]
    go_enter Try.func22, Try.ntmps22
    go_wp2_with (go_at_call 69; (with_reducible refine (HM.out _ hs0).mono ?_); rintro e w1 ⟨rfl, hb⟩; have HL1 := bl_trans HL0 hb; clear hb)
    go_ret2
    exact ⟨none, 0, rfl, ⟨rfl, fun h => absurd h (by simp)⟩, HL1⟩
  have hn : n ≤ 64 := by have := mayT_len hmt; rwa [show xs.length = n from hs.1] at this
  simp only [if_true]
  unfold encT
  dsimp only
  rw [show xs.length = n from hs.1]
  have el0 := encN_length ⟨s0, s1, s2, s3⟩
  have el1 := encI_length ⟨i0, ⟨i1, i2, i3, i4⟩, ⟨i5, i6, i7, i8⟩⟩
  have HN0 := Lib.hid (fun b p xs W h1 h2 h3 => wnum_calls b p xs s0 s1 s2 s3 W h1 h2 h3)
  generalize encN ⟨s0, s1, s2, s3⟩ = n0 at HN0 el0 ⊢
  generalize hn1 : encI ⟨i0, ⟨i1, i2, i3, i4⟩, ⟨i5, i6, i7, i8⟩⟩ = n1 at el1 ⊢
  have Hn1 := Lib.hid hn1
  generalize hR : [(n : Int)] ++ n0 ++ n1 ++ encSs xs = R
  have HR := Lib.hid hR
  clear hn1 hR
  go_enter Try.func22, Try.ntmps22
  go_wp2_with (first
    | (go_at_call 69; (with_reducible refine (HM.out _ hs0).mono ?_); rintro e w1 ⟨rfl, hb⟩; have HL1 := bl_trans HL0 hb; have BT1 := BT0.call hb; have hg1 : w.heap.size < w1.heap.size := Blk.lt BT1; have t0 := BT1.at_ 0 (u := .int .i64 s0) rfl; have t1 := BT1.at_ 1 (u := .bool s1) rfl; have t2 := BT1.at_ 2 (u := .int .u64 s2) rfl; have t3 := BT1.at_ 3 (u := .int .i64 s3) rfl; have t4 := BT1.at_ 4 (u := .bool i0) rfl; have t5 := BT1.at_ 5 (u := .int .i64 i1) rfl; have t6 := BT1.at_ 6 (u := .bool i2) rfl; have t7 := BT1.at_ 7 (u := .int .u64 i3) rfl; have t8 := BT1.at_ 8 (u := .int .i64 i4) rfl; have t9 := BT1.at_ 9 (u := .int .i64 i5) rfl; have t10 := BT1.at_ 10 (u := .bool i6) rfl; have t11 := BT1.at_ 11 (u := .int .u64 i7) rfl; have t12 := BT1.at_ 12 (u := .int .i64 i8) rfl; have t13 := BT1.at_ 13 (u := .slice A n c) rfl; clear hb HM)
    | (go_at_call 70; (refine (HN0.out w.heap.size (w1.heap.size + 1) [(n : Int)] _ ⟨by omega, _, Blk.new1 w1 _ _ _, (OwnB.lit1 (Blk.new w1 5 #[.int .u8 (n : Int)]) (by omega)).alloc _⟩ (by simp; omega) (by simp)).mono ?_)
       rintro e w4 ⟨⟨v4, rfl⟩, HW4, HK4, hb⟩
       have HL3 := bl_alloc (bl_alloc HL1 (.cells #[.int .u8 (n : Int)] 5)) (.cells #[.slice (some ⟨w1.heap.size, 0, none⟩) 1 1] 84)
       have HL4 := HL3.trans hb
       have BT3 := (BT1.alloc (.cells #[.int .u8 (n : Int)] 5)).alloc (.cells #[.slice (some ⟨w1.heap.size, 0, none⟩) 1 1] 84)
       have BT4 := HK4 _ _ _ (by omega) (by decide) BT3
       have hg4 : w.heap.size < w4.heap.size := Blk.lt BT4
       have hp1 : w1.heap.size + 1 < w4.heap.size := by obtain ⟨_, v, h, _⟩ := HW4; exact Blk.lt h
       clear t0 t1 t2 t3 t4 t5 t6 t7 t8 t9 t10 t11 t12 t13
       have t4 := BT4.at_ 4 (u := .bool i0) rfl; have t5 := BT4.at_ 5 (u := .int .i64 i1) rfl; have t6 := BT4.at_ 6 (u := .bool i2) rfl; have t7 := BT4.at_ 7 (u := .int .u64 i3) rfl; have t8 := BT4.at_ 8 (u := .int .i64 i4) rfl; have t9 := BT4.at_ 9 (u := .int .i64 i5) rfl; have t10 := BT4.at_ 10 (u := .bool i6) rfl; have t11 := BT4.at_ 11 (u := .int .u64 i7) rfl; have t12 := BT4.at_ 12 (u := .int .i64 i8) rfl; have t13 := BT4.at_ 13 (u := .slice A n c) rfl
       clear hb HN0)
    | (go_at_call 71; (refine (wiv_calls w.heap.size (w1.heap.size + 1) _ w4.heap.size 1 1 [⟨i0, ⟨i1, i2, i3, i4⟩, ⟨i5, i6, i7, i8⟩⟩] rfl (by omega) _ _ (HW4.alloc _) (by simp; omega) (by simp only [List.length_append, List.length_singleton]; omega) (Blk.new w4 _ _) (by omega) (ivs1 ⟨i0, ⟨i1, i2, i3, i4⟩, ⟨i5, i6, i7, i8⟩⟩)).mono ?_)
       rintro e w5 ⟨⟨v5, rfl⟩, HW5, HK5, hb⟩
       have HL5 := (bl_alloc HL4 (.cells #[.bool i0, .int .i64 i1, .bool i2, .int .u64 i3, .int .i64 i4, .int .i64 i5, .bool i6, .int .u64 i7, .int .i64 i8] 26)).trans hb
       have BT5 := HK5 _ _ _ (by omega) (by decide) (BT4.alloc _)
       clear t4 t5 t6 t7 t8 t9 t10 t11 t12 t13
       have t13 := BT5.at_ 13 (u := .slice A n c) rfl
       simp only [encIs, List.flatMap_cons, List.flatMap_nil, List.append_nil] at HW5
       clear hb))
  rw [Hn1.out] at HW5
  generalize hpp : w1.heap.size + 1 = p at HW5 hp1 ⊢
  have hpre : ([(n : Int)] ++ n0 ++ n1).length ≤ 41 := by simp only [List.length_append, List.length_singleton]; omega
  replace HR : L0ofs [(n : Int)] n0 n1 ++ encSs xs = R := HR.out
  rw [show [(n : Int)] ++ n0 ++ n1 = L0ofs [(n : Int)] n0 n1 from rfl] at HW5 hpre
  generalize L0ofs [(n : Int)] n0 n1 = L0 at HW5 hpre HR
  replace HR := Lib.hid HR
  clear hpp HL1 HL3 HL4 BT1 BT3 BT4 hg1
  go_loopw [26] (fun i wr => ∃ k : Nat, k ≤ n ∧ i = .int .i64 k ∧ Wr wr w.heap.size p (L0 ++ encSs (xs.take k)) ∧ Below w.heap.size w wr) (fun i _ => n - (intOf i).toNat)
  case atStart => exact ⟨0, Nat.zero_le _, rfl, by simpa [encSs] using HW5, HL5⟩
  case round =>
    obtain ⟨k, hk, rfl, HW, HB⟩ := hrel
    have hbs : w.heap.size ≤ wr.heap.size := HB.size
    by_cases hlt : k < n
    · obtain ⟨b, off, rfl, hbB, hcc⟩ := hs.2 (by omega)
      obtain ⟨x, hx⟩ : ∃ x, xs[k]? = some x := ⟨_, List.getElem?_eq_getElem (show k < xs.length by have := hs.1; omega)⟩
      have hcx := hcc k _ hx
      have hrg : World.rangeAt wr b (off + k * 22) (slcCells x) := fun j u hu => (HB.cell (p := ⟨b, _, none⟩) hbB).trans (hcx j u hu)
      have htk : xs.take (k + 1) = xs.take k ++ [x] := by rw [List.take_add_one, hx]; rfl
      have Hen := encSs_snoc (xs.take k) x
      rw [← htk] at Hen
      replace Hen := Lib.hid Hen
      have hlen := encSs_length (xs.take k)
      have hlk : (xs.take k).length ≤ k := by rw [List.length_take]; omega
      have hxl : (L0 ++ encSs (xs.take k)).length ≤ 10000 := by rw [List.length_append]; omega
      have Happ := Lib.hid (List.append_assoc L0 (encSs (xs.take k)) (encSlc x))
      generalize encSs (xs.take k) = E at HW hxl Hen Happ
      generalize L0 ++ E = L at HW hxl Happ
      have HN := Lib.hid (fun W h1 h2 h3 => wnum_calls w.heap.size p L x.e.k x.e.n x.e.m x.e.e W h1 h2 h3)
      have hnl := encN_length ⟨x.e.k, x.e.n, x.e.m, x.e.e⟩
      have hpl : p < wr.heap.size := by obtain ⟨_, v, h, _⟩ := HW; exact Blk.lt h
      clear hcc hx hcx htk hlen hlk hs
      go_wp2_with (first
        | (refine wpList_loadT rfl (.tmp 28) rfl b (off + k * 22) rfl x hrg ?_)
        | (refine wpList_storeT rfl 88 (.tmp 6) (.tmp 29) rfl wr.heap.size _ (slcCells x).toArray (Blk.new wr _ _) rfl rfl (by kernel_rfl) rfl (slc_one x) ?_
           intro W6 BS6 hk6 hl6
           have hbel := hl6 wr.heap.size wr (Nat.le_refl _) (bl_alloc (Below.refl _ _) _)
           have HL6 := HB.trans (hbel.mono hbs)
           have HW6 := HW.below hbel
           have y0 := BS6.at_ 0 (u := .int .i64 x.e.k) rfl; have y1 := BS6.at_ 1 (u := .bool x.e.n) rfl; have y2 := BS6.at_ 2 (u := .int .u64 x.e.m) rfl; have y3 := BS6.at_ 3 (u := .int .i64 x.e.e) rfl
           have hb6 := HL6.size
           clear hk6 hl6 hbel)
        | (go_at_call 70; (with_reducible refine (HN.out _ HW6 hb6 (by omega)).mono ?_)
           rintro e W7 ⟨⟨v7, rfl⟩, HW7, HK7, hb⟩
           have HL7 := HL6.trans hb
           have BS7 := HK7 _ _ _ (Ne.symm (Nat.ne_of_lt hpl)) (by decide) BS6
           have hb7 := HL7.size
           clear y0 y1 y2 y3 HN
           have hz7 : wr.heap.size < W7.heap.size := Blk.lt BS7
           have y4 := BS7.at_ 4 (u := .bool x.a.emp) rfl; have y5 := BS7.at_ 5 (u := .int .i64 x.a.lo.k) rfl; have y6 := BS7.at_ 6 (u := .bool x.a.lo.n) rfl; have y7 := BS7.at_ 7 (u := .int .u64 x.a.lo.m) rfl; have y8 := BS7.at_ 8 (u := .int .i64 x.a.lo.e) rfl; have y9 := BS7.at_ 9 (u := .int .i64 x.a.hi.k) rfl; have y10 := BS7.at_ 10 (u := .bool x.a.hi.n) rfl; have y11 := BS7.at_ 11 (u := .int .u64 x.a.hi.m) rfl; have y12 := BS7.at_ 12 (u := .int .i64 x.a.hi.e) rfl; have y13 := BS7.at_ 13 (u := .bool x.o.emp) rfl; have y14 := BS7.at_ 14 (u := .int .i64 x.o.lo.k) rfl; have y15 := BS7.at_ 15 (u := .bool x.o.lo.n) rfl; have y16 := BS7.at_ 16 (u := .int .u64 x.o.lo.m) rfl; have y17 := BS7.at_ 17 (u := .int .i64 x.o.lo.e) rfl; have y18 := BS7.at_ 18 (u := .int .i64 x.o.hi.k) rfl; have y19 := BS7.at_ 19 (u := .bool x.o.hi.n) rfl; have y20 := BS7.at_ 20 (u := .int .u64 x.o.hi.m) rfl; have y21 := BS7.at_ 21 (u := .int .i64 x.o.hi.e) rfl)
        | (go_at_call 71; (refine (wiv_calls w.heap.size p _ W7.heap.size 2 2 [x.a, x.o] rfl (by omega) _ _ (HW7.alloc _) (by simp; omega) (by rw [List.length_append]; omega) (Blk.new W7 _ _) (by omega) (ivs2 x.a x.o)).mono ?_)
           rintro e W8 ⟨⟨v8, rfl⟩, HW8, HK8, hb⟩
           have HL8 := (HL7.alloc hb7 (.cells #[.bool x.a.emp, .int .i64 x.a.lo.k, .bool x.a.lo.n, .int .u64 x.a.lo.m, .int .i64 x.a.lo.e, .int .i64 x.a.hi.k, .bool x.a.hi.n, .int .u64 x.a.hi.m, .int .i64 x.a.hi.e, .bool x.o.emp, .int .i64 x.o.lo.k, .bool x.o.lo.n, .int .u64 x.o.lo.m, .int .i64 x.o.lo.e, .int .i64 x.o.hi.k, .bool x.o.hi.n, .int .u64 x.o.hi.m, .int .i64 x.o.hi.e] 26)).trans hb))
      go_roundw
      case rel => exact ⟨k + 1, by omega, by go_num, by rw [Hen.out, ← Happ.out]; simp only [encSlc, encIs, List.flatMap_cons, List.flatMap_nil, List.append_nil, List.append_assoc] at HW8 ⊢; exact HW8, HL8⟩
      case measure => simp [intOf] <;> omega
    · have hkn : n = k := by omega
      subst hkn
      have et : xs.take n = xs := List.take_of_length_le (by have := hs.1; omega)
      rw [et, HR.out] at HW
      obtain ⟨_, v, hB, hO⟩ := HW
      obtain ⟨A', c', rfl, S⟩ := OwnB.sl hO
      obtain ⟨q0, f0⟩ := hB.c1b
      go_wp2
      go_ret2
      exact ⟨A', c', rfl, S, HB⟩
end Go.Proofs.Ytakajahogjeiaab.Wk
