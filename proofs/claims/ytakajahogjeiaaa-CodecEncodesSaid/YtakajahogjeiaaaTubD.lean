/- Walk: pelorusref23.EncodeTube, for every tube. -/
import Derived.Test.YtakajahogjeiaaaTubC
import Derived.Test.YtakajahogjeiaaaOpenT
namespace Go.Proofs.Ytakajahogjeiaaa.Wk
open Go.RowKit Go.Proofs.Pl Go.Proofs.YtakajahogjeiaaaW.PrintLast
set_option linter.unusedSimpArgs false
set_option linter.unusedVariables false

set_option maxRecDepth 100000 in
set_option maxHeartbeats 8000000 in
theorem renct_calls (s0 : Int) (s1 : Bool) (s2 s3 : Int) (i0 : Bool) (i1 : Int) (i2 : Bool) (i3 i4 i5 : Int) (i6 : Bool) (i7 i8 : Int) (A : Option Addr) (n c : Nat) (xs : List Slc) (hu0 : U64 s2) (hu1 : U64I ⟨i0, ⟨i1, i2, i3, i4⟩, ⟨i5, i6, i7, i8⟩⟩) (hu : ∀ x ∈ xs, U64S x) (w : World) (hs : SlT w w.heap.size A n xs) :
    Calls Try.prog 27 #[.agg #[.int .i64 s0, .bool s1, .int .u64 s2, .int .i64 s3, .bool i0, .int .i64 i1, .bool i2, .int .u64 i3, .int .i64 i4, .int .i64 i5, .bool i6, .int .u64 i7, .int .i64 i8, .slice A n c]] w fun e w' => ∃ A' c', e = .returned (.tuple #[.slice A' (encTAll ⟨⟨s0, s1, s2, s3⟩, ⟨i0, ⟨i1, i2, i3, i4⟩, ⟨i5, i6, i7, i8⟩⟩, xs⟩).length c', .int .i64 (encTErr ⟨⟨s0, s1, s2, s3⟩, ⟨i0, ⟨i1, i2, i3, i4⟩, ⟨i5, i6, i7, i8⟩⟩, xs⟩)]) ∧ SlB w' w'.heap.size A' (encTAll ⟨⟨s0, s1, s2, s3⟩, ⟨i0, ⟨i1, i2, i3, i4⟩, ⟨i5, i6, i7, i8⟩⟩, xs⟩).length (encTAll ⟨⟨s0, s1, s2, s3⟩, ⟨i0, ⟨i1, i2, i3, i4⟩, ⟨i5, i6, i7, i8⟩⟩, xs⟩) ∧ Below w.heap.size w w' := by
  have HL0 := bl_alloc (Below.refl w.heap.size w) (.cells #[.int .i64 s0, .bool s1, .int .u64 s2, .int .i64 s3, .bool i0, .int .i64 i1, .bool i2, .int .u64 i3, .int .i64 i4, .int .i64 i5, .bool i6, .int .u64 i7, .int .i64 i8, .slice A n c] 47)
  have BT0 := Blk.new w 47 #[.int .i64 s0, .bool s1, .int .u64 s2, .int .i64 s3, .bool i0, .int .i64 i1, .bool i2, .int .u64 i3, .int .i64 i4, .int .i64 i5, .bool i6, .int .u64 i7, .int .i64 i8, .slice A n c]
  have HM := Lib.hid (fun W h => r17may_calls s0 s1 s2 s3 i0 i1 i2 i3 i4 i5 i6 i7 i8 A n c xs W h)
  have hs0 := (hs.below HL0).more HL0.size
  unfold encTAll encTErr
  generalize hmt : mayT ⟨⟨s0, s1, s2, s3⟩, ⟨i0, ⟨i1, i2, i3, i4⟩, ⟨i5, i6, i7, i8⟩⟩, xs⟩ = mt at HM ⊢
  cases mt
  · simp only [Bool.false_eq_true, if_false]
    go_enter Try.func27, Try.ntmps27
    go_wp2_with (go_at_call 63; (with_reducible refine (HM.out _ hs0).mono ?_); rintro e w1 ⟨rfl, hb⟩; have HL1 := bl_trans HL0 hb; clear hb)
    go_ret2
    exact ⟨none, 0, rfl, ⟨rfl, fun h => absurd h (by simp)⟩, HL1⟩
  have hn : n ≤ 64 := by have := mayT_len hmt; rwa [show xs.length = n from hs.1] at this
  simp only [if_true]
  unfold encT
  dsimp only
  rw [show xs.length = n from hs.1]
  have el0 := encN_length ⟨s0, s1, s2, s3⟩
  have el1 := encI_length ⟨i0, ⟨i1, i2, i3, i4⟩, ⟨i5, i6, i7, i8⟩⟩
  have HN0 := Lib.hid (fun b v xs W h1 h2 h3 => rputNum_calls b v xs s0 s1 s2 s3 hu0.1 hu0.2 W h1 h2 h3)
  have HI0 := Lib.hid (fun b v xs W h1 h2 h3 => rputIv_calls b v xs i0 i1 i2 i3 i4 i5 i6 i7 i8 hu1 W h1 h2 h3)
  generalize encN ⟨s0, s1, s2, s3⟩ = n0 at HN0 el0 ⊢
  generalize encI ⟨i0, ⟨i1, i2, i3, i4⟩, ⟨i5, i6, i7, i8⟩⟩ = n1 at HI0 el1 ⊢
  generalize hR : [(n : Int)] ++ n0 ++ n1 ++ encSs xs = R
  have HR := Lib.hid hR
  have HUs := Lib.hid hu
  clear hR hu
  go_enter Try.func27, Try.ntmps27
  go_wp2_with (first
    | (go_at_call 63; (with_reducible refine (HM.out _ hs0).mono ?_); rintro e w1 ⟨rfl, hb⟩; have HL1 := bl_trans HL0 hb; have BT1 := BT0.call hb; have hg1 : w.heap.size < w1.heap.size := Blk.lt BT1; have t0 := BT1.at_ 0 (u := .int .i64 s0) rfl; have t1 := BT1.at_ 1 (u := .bool s1) rfl; have t2 := BT1.at_ 2 (u := .int .u64 s2) rfl; have t3 := BT1.at_ 3 (u := .int .i64 s3) rfl; have t4 := BT1.at_ 4 (u := .bool i0) rfl; have t5 := BT1.at_ 5 (u := .int .i64 i1) rfl; have t6 := BT1.at_ 6 (u := .bool i2) rfl; have t7 := BT1.at_ 7 (u := .int .u64 i3) rfl; have t8 := BT1.at_ 8 (u := .int .i64 i4) rfl; have t9 := BT1.at_ 9 (u := .int .i64 i5) rfl; have t10 := BT1.at_ 10 (u := .bool i6) rfl; have t11 := BT1.at_ 11 (u := .int .u64 i7) rfl; have t12 := BT1.at_ 12 (u := .int .i64 i8) rfl; have t13 := BT1.at_ 13 (u := .slice A n c) rfl; clear hb HM)
    | (go_at_call 60; (refine (HN0.out w.heap.size _ [(n : Int)] _ (OwnB.lit1 (Blk.new w1 5 #[.int .u8 (n : Int)]) (by omega)) (by simp; omega) (by simp)).mono ?_)
       rintro e w4 ⟨v4, rfl, O4, hb, hk4⟩
       have HL3 := bl_alloc HL1 (.cells #[.int .u8 (n : Int)] 5)
       have HL4 := HL3.trans hb
       have BT4 := hk4 _ _ _ (by decide) (BT1.alloc (.cells #[.int .u8 (n : Int)] 5))
       have hb4 := HL4.size
       clear t0 t1 t2 t3 t4 t5 t6 t7 t8 t9 t10 t11 t12 t13
       have t4 := BT4.at_ 4 (u := .bool i0) rfl; have t5 := BT4.at_ 5 (u := .int .i64 i1) rfl; have t6 := BT4.at_ 6 (u := .bool i2) rfl; have t7 := BT4.at_ 7 (u := .int .u64 i3) rfl; have t8 := BT4.at_ 8 (u := .int .i64 i4) rfl; have t9 := BT4.at_ 9 (u := .int .i64 i5) rfl; have t10 := BT4.at_ 10 (u := .bool i6) rfl; have t11 := BT4.at_ 11 (u := .int .u64 i7) rfl; have t12 := BT4.at_ 12 (u := .int .i64 i8) rfl; have t13 := BT4.at_ 13 (u := .slice A n c) rfl
       clear hb hk4 HN0)
    | (go_at_call 61; (refine (HI0.out w.heap.size _ _ _ O4 hb4 (by simp only [List.length_append, List.length_singleton]; omega)).mono ?_)
       rintro e w5 ⟨v5, rfl, O5, hb, hk5⟩
       have HL5 := HL4.trans hb
       have BT5 := hk5 _ _ _ (by decide) BT4
       clear t4 t5 t6 t7 t8 t9 t10 t11 t12 t13
       clear hb hk5))
  have hpre : ([(n : Int)] ++ n0 ++ n1).length ≤ 41 := by simp only [List.length_append, List.length_singleton]; omega
  replace HR : L0ofs [(n : Int)] n0 n1 ++ encSs xs = R := HR.out
  rw [show [(n : Int)] ++ n0 ++ n1 = L0ofs [(n : Int)] n0 n1 from rfl] at O5 hpre
  generalize L0ofs [(n : Int)] n0 n1 = L0 at O5 hpre HR
  replace HR := Lib.hid HR
  clear HL1 HL3 HL4 BT1 BT4 hg1 O4
  go_loopw [5, 6] (fun v i wr => ∃ k : Nat, k ≤ n ∧ i = .int .i64 k ∧ OwnB wr w.heap.size v (L0 ++ encSs (xs.take k)) ∧ Blk wr w.heap.size 47 #[.int .i64 s0, .bool s1, .int .u64 s2, .int .i64 s3, .bool i0, .int .i64 i1, .bool i2, .int .u64 i3, .int .i64 i4, .int .i64 i5, .bool i6, .int .u64 i7, .int .i64 i8, .slice A n c] ∧ Below w.heap.size w wr) (fun _ i _ => n - (intOf i).toNat)
  case atStart => exact ⟨0, Nat.zero_le _, rfl, by simpa [encSs] using O5, BT5, HL5⟩
  case round =>
    obtain ⟨k, hk, rfl, HO, BT, HB⟩ := hrel
    have hbs : w.heap.size ≤ wr.heap.size := HB.size
    have t13 := BT.at_ 13 (u := .slice A n c) rfl
    by_cases hlt : k < n
    · obtain ⟨b, off, rfl, hbB, hcc⟩ := hs.2 (by omega)
      obtain ⟨x, hx⟩ : ∃ x, xs[k]? = some x := ⟨_, List.getElem?_eq_getElem (show k < xs.length by have := hs.1; omega)⟩
      have HCX := Lib.hid (hcc k _ hx)
      obtain ⟨hx0, hx1, hx2⟩ := HUs.out x (List.mem_of_getElem? hx)
      have htk : xs.take (k + 1) = xs.take k ++ [x] := by rw [List.take_add_one, hx]; rfl
      have Hen := encSs_snoc (xs.take k) x
      rw [← htk] at Hen
      replace Hen := Lib.hid Hen
      have hlen := encSs_length (xs.take k)
      have hlk : (xs.take k).length ≤ k := by rw [List.length_take]; omega
      have hxl : (L0 ++ encSs (xs.take k)).length ≤ 10000 := by rw [List.length_append]; omega
      have Happ := Lib.hid (List.append_assoc L0 (encSs (xs.take k)) (encSlc x))
      generalize encSs (xs.take k) = E at HO hxl Hen Happ
      generalize L0 ++ E = L at HO hxl Happ
      obtain ⟨A0, n0', c0', rfl⟩ := HO.form
      have hnl := encN_length x.e
      have hal := encI_length x.a
      have HL6 := HB
      clear hcc hx htk hlen hlk hs
      have c0 : wr.cell? ⟨b, off + k * 22, none⟩ = some (.int .i64 x.e.k) := (HL6.cell (p := ⟨b, _, none⟩) hbB).trans (HCX.out 0 _ rfl); have c1 : wr.cell? ⟨b, off + k * 22 + 1, none⟩ = some (.bool x.e.n) := (HL6.cell (p := ⟨b, _, none⟩) hbB).trans (HCX.out 1 _ rfl); have c2 : wr.cell? ⟨b, off + k * 22 + 2, none⟩ = some (.int .u64 x.e.m) := (HL6.cell (p := ⟨b, _, none⟩) hbB).trans (HCX.out 2 _ rfl); have c3 : wr.cell? ⟨b, off + k * 22 + 3, none⟩ = some (.int .i64 x.e.e) := (HL6.cell (p := ⟨b, _, none⟩) hbB).trans (HCX.out 3 _ rfl)
      go_wp2_with (first
        | (go_at_call 60; (with_reducible refine (rputNumX_calls w.heap.size _ _ x.e hx0 _ HO hbs (by omega)).mono ?_)
           rintro e W7 ⟨v7, rfl, O7, hb, hk7⟩
           have HL7 := HL6.trans hb
           have hb7 := HL7.size
           have BT7 := hk7 _ _ _ (by decide) BT
           clear c0 c1 c2 c3 t13
           have t13 := BT7.at_ 13 (u := .slice (some ⟨b, off, none⟩) n c) rfl
           have c4 : W7.cell? ⟨b, off + k * 22 + 4, none⟩ = some (.bool x.a.emp) := (HL7.cell (p := ⟨b, _, none⟩) hbB).trans (HCX.out 4 _ rfl); have c5 : W7.cell? ⟨b, off + k * 22 + 5, none⟩ = some (.int .i64 x.a.lo.k) := (HL7.cell (p := ⟨b, _, none⟩) hbB).trans (HCX.out 5 _ rfl); have c6 : W7.cell? ⟨b, off + k * 22 + 6, none⟩ = some (.bool x.a.lo.n) := (HL7.cell (p := ⟨b, _, none⟩) hbB).trans (HCX.out 6 _ rfl); have c7 : W7.cell? ⟨b, off + k * 22 + 7, none⟩ = some (.int .u64 x.a.lo.m) := (HL7.cell (p := ⟨b, _, none⟩) hbB).trans (HCX.out 7 _ rfl); have c8 : W7.cell? ⟨b, off + k * 22 + 8, none⟩ = some (.int .i64 x.a.lo.e) := (HL7.cell (p := ⟨b, _, none⟩) hbB).trans (HCX.out 8 _ rfl); have c9 : W7.cell? ⟨b, off + k * 22 + 9, none⟩ = some (.int .i64 x.a.hi.k) := (HL7.cell (p := ⟨b, _, none⟩) hbB).trans (HCX.out 9 _ rfl); have c10 : W7.cell? ⟨b, off + k * 22 + 10, none⟩ = some (.bool x.a.hi.n) := (HL7.cell (p := ⟨b, _, none⟩) hbB).trans (HCX.out 10 _ rfl); have c11 : W7.cell? ⟨b, off + k * 22 + 11, none⟩ = some (.int .u64 x.a.hi.m) := (HL7.cell (p := ⟨b, _, none⟩) hbB).trans (HCX.out 11 _ rfl); have c12 : W7.cell? ⟨b, off + k * 22 + 12, none⟩ = some (.int .i64 x.a.hi.e) := (HL7.cell (p := ⟨b, _, none⟩) hbB).trans (HCX.out 12 _ rfl)
           clear hb hk7)
        | (go_at_call 61; first
          | ((with_reducible refine (rputIvX_calls w.heap.size _ _ x.a hx1 _ O7 hb7 (by rw [List.length_append]; omega)).mono ?_); rintro e W8 ⟨v8, rfl, O8, hb, hk8⟩; have HL8 := HL7.trans hb; have hb8 := HL8.size; have BT8 := hk8 _ _ _ (by decide) BT7; clear c4 c5 c6 c7 c8 c9 c10 c11 c12; clear t13; have t13 := BT8.at_ 13 (u := .slice (some ⟨b, off, none⟩) n c) rfl; have c13 : W8.cell? ⟨b, off + k * 22 + 13, none⟩ = some (.bool x.o.emp) := (HL8.cell (p := ⟨b, _, none⟩) hbB).trans (HCX.out 13 _ rfl); have c14 : W8.cell? ⟨b, off + k * 22 + 14, none⟩ = some (.int .i64 x.o.lo.k) := (HL8.cell (p := ⟨b, _, none⟩) hbB).trans (HCX.out 14 _ rfl); have c15 : W8.cell? ⟨b, off + k * 22 + 15, none⟩ = some (.bool x.o.lo.n) := (HL8.cell (p := ⟨b, _, none⟩) hbB).trans (HCX.out 15 _ rfl); have c16 : W8.cell? ⟨b, off + k * 22 + 16, none⟩ = some (.int .u64 x.o.lo.m) := (HL8.cell (p := ⟨b, _, none⟩) hbB).trans (HCX.out 16 _ rfl); have c17 : W8.cell? ⟨b, off + k * 22 + 17, none⟩ = some (.int .i64 x.o.lo.e) := (HL8.cell (p := ⟨b, _, none⟩) hbB).trans (HCX.out 17 _ rfl); have c18 : W8.cell? ⟨b, off + k * 22 + 18, none⟩ = some (.int .i64 x.o.hi.k) := (HL8.cell (p := ⟨b, _, none⟩) hbB).trans (HCX.out 18 _ rfl); have c19 : W8.cell? ⟨b, off + k * 22 + 19, none⟩ = some (.bool x.o.hi.n) := (HL8.cell (p := ⟨b, _, none⟩) hbB).trans (HCX.out 19 _ rfl); have c20 : W8.cell? ⟨b, off + k * 22 + 20, none⟩ = some (.int .u64 x.o.hi.m) := (HL8.cell (p := ⟨b, _, none⟩) hbB).trans (HCX.out 20 _ rfl); have c21 : W8.cell? ⟨b, off + k * 22 + 21, none⟩ = some (.int .i64 x.o.hi.e) := (HL8.cell (p := ⟨b, _, none⟩) hbB).trans (HCX.out 21 _ rfl); clear hb hk8)
          | ((with_reducible refine (rputIvX_calls w.heap.size _ _ x.o hx2 _ O8 hb8 (by rw [List.length_append, List.length_append]; omega)).mono ?_); rintro e W9 ⟨v9, rfl, O9, hb, hk9⟩; have HL9 := HL8.trans hb; have BT9 := hk9 _ _ _ (by decide) BT8; clear hb hk9)))
      go_roundw
      case rel => exact ⟨k + 1, by omega, by go_num, by rw [Hen.out, ← Happ.out]; simp only [encSlc, List.append_assoc] at O9 ⊢; exact O9, BT9, HL9⟩
      case measure => simp [intOf] <;> omega
    · have hkn : n = k := by omega
      subst hkn
      have et : xs.take n = xs := List.take_of_length_le (by have := hs.1; omega)
      rw [et, HR.out] at HO
      obtain ⟨A', c', rfl, S⟩ := OwnB.sl HO
      go_wp2
      go_ret2
      exact ⟨A', c', rfl, S, HB⟩
end Go.Proofs.Ytakajahogjeiaaa.Wk
