/- Walk: peloruslaw23.CodecOnce. -/
import Derived.Test.YtakajahogjeiaabDecD
import Derived.Test.YtakajahogjeiaabTubC
import Derived.Test.YtakajahogjeiaabCodF
namespace Go.Proofs.Ytakajahogjeiaab.Wk
open Go.RowKit Go.Proofs.Pl Go.Proofs.YtakajahogjeiaabW.PrintLast
set_option linter.unusedSimpArgs false
set_option linter.unusedVariables false

theorem enctX (s : Num) (i : Iv) (A : Option Addr) (n c : Nat) (xs : List Slc) (w : World) (hs : SlT w w.heap.size A n xs) :
    Calls Try.prog 22 #[.agg (tbCells s i (.slice A n c)).toArray] w fun e w' => ∃ A' c', e = .returned (.tuple #[.slice A' (encTAll ⟨s, i, xs⟩).length c', .int .i64 (encTErr ⟨s, i, xs⟩)]) ∧ SlB w' w'.heap.size A' (encTAll ⟨s, i, xs⟩).length (encTAll ⟨s, i, xs⟩) ∧ Below w.heap.size w w' := by
  obtain ⟨s0, s1, s2, s3⟩ := s
  obtain ⟨i0, ⟨i1, i2, i3, i4⟩, ⟨i5, i6, i7, i8⟩⟩ := i
  exact enct_calls s0 s1 s2 s3 i0 i1 i2 i3 i4 i5 i6 i7 i8 A n c xs w hs
theorem SlO.on' {w w' : World} {n : Nat} {A : Option Addr} {xs : List Op} (h : SlO w w.heap.size A n xs) (hb : Below w.heap.size w w') : SlO w' w'.heap.size A n xs := by
  have h1 := h.keep (w' := w') fun b o hlt => hb.cell (p := ⟨b, o, none⟩) hlt
  exact ⟨h1.1, fun hn => by obtain ⟨b, off, e, hlt, hc⟩ := h1.2 hn; exact ⟨b, off, e, Nat.lt_of_lt_of_le hlt hb.size, hc⟩⟩
theorem SlT.on' {w w' : World} {n : Nat} {A : Option Addr} {xs : List Slc} (h : SlT w w.heap.size A n xs) (hb : Below w.heap.size w w') : SlT w' w'.heap.size A n xs := by
  have h1 := h.keep (w' := w') fun b o hlt => hb.cell (p := ⟨b, o, none⟩) hlt
  exact ⟨h1.1, fun hn => by obtain ⟨b, off, e, hlt, hc⟩ := h1.2 hn; exact ⟨b, off, e, Nat.lt_of_lt_of_le hlt hb.size, hc⟩⟩
/-- a new box, filled: all else is as it was -/
theorem below_made {w W : World} {o : Obj} (hg : (w.alloc o).grownBy W (some w.heap.size)) : Below w.heap.size w W :=
  grown_below2 (Below.refl w.heap.size w) hg ⟨Nat.le_refl _, Nat.le_refl _⟩
theorem once_ops (bs : List Int) (h : Byt bs) : ((decO bs).2 = 0 ∧ encAll (decO bs).1 = bs ∧ encErr (decO bs).1 = 0 ∧ (decO bs).1.length ≤ 256) ∨ ((decO bs).2 ≠ 0 ∧ (decO bs).1.length = 0 ∧ (decO bs).1.length ≤ 256) := by
  rcases ops_once bs h with ⟨h1, h2, h3, h4⟩ | ⟨h1, h2⟩
  · refine Or.inl ⟨h1, ?_, ?_, h4⟩
    · unfold encAll; rw [h3]; exact h2.symm
    · unfold encErr; rw [h3]; rfl
  · exact Or.inr ⟨h1, by rw [h2]; rfl, by rw [h2]; simp⟩
theorem once_tube (bs : List Int) (h : Byt bs) : (decTE bs = 0 ∧ encTAll (decT bs) = bs ∧ encTErr (decT bs) = 0) ∨ (decTE bs ≠ 0 ∧ (decT bs).l.length = 0) := by
  by_cases hk : decTE bs = 0
  · have := tube_once bs h hk
    exact Or.inl ⟨hk, this⟩
  · refine Or.inr ⟨hk, ?_⟩
    have ho : tOk bs = false := by
      cases hh : tOk bs
      · rfl
      · exact absurd (dec_ok rfl hh).2 hk
    rw [(dec_no ho).1]
    rfl
set_option maxRecDepth 100000 in
set_option maxHeartbeats 8000000 in
theorem conce_calls (A : Option Addr) (n c : Nat) (bs : List Int) (w : World) (hs : SlB w w.heap.size A n bs) (hby : Byt bs) (hc : n ≤ c) (hcm : c ≤ 9223372036854775807) :
    Calls Try.prog 7 #[.slice A n c] w fun e w' => e = .returned (.bool true) ∧ Below w.heap.size w w' := by
  have HA := Lib.hid (fun W => awake23_calls W)
  by_cases hn : n ≤ 6000
  · have hni : ¬ (6000 : Int) < (n : Int) := by omega
    have hO := once_ops bs hby
    have hT := once_tube bs hby
    have HD := Lib.hid (fun W h => decode_calls A n c bs W h hby hc hcm)
    have HU := Lib.hid (fun W h => dect_calls A n c bs W h hby hc hcm)
    generalize decO bs = D at hO HD
    generalize decT bs = t at hT HU
    generalize decTE bs = eT at hT HU
    obtain ⟨L, eL⟩ := D
    obtain ⟨s, i, xs⟩ := t
    dsimp only at hO HD hT HU
    have hL : L.length ≤ 256 := by rcases hO with ⟨_, _, _, h⟩ | ⟨_, _, h⟩ <;> exact h
    have HE := Lib.hid (fun A1 c1 W h => encode_calls A1 L.length c1 L W h hL)
    have HP := Lib.hid (fun A2 c2 W h => enctX s i A2 xs.length c2 xs W h)
    generalize encAll L = U at hO HE
    generalize encErr L = eU at hO HE
    generalize encTAll ⟨s, i, xs⟩ = P at hT HP
    generalize encTErr ⟨s, i, xs⟩ = eP at hT HP
    generalize L.length = nL at hO HD HE
    generalize xs.length = nX at hT HU HP
    have Hs := Lib.hid hs
    clear hs hL
    rcases hO with ⟨rfl, rfl, rfl, _⟩ | ⟨he, rfl, _⟩ <;> rcases hT with ⟨rfl, rfl, rfl⟩ | ⟨hf, rfl⟩
    all_goals
      try have he1 := beq_eq_false_iff_ne.2 he
      try have he2 := bne_iff_ne.2 he
      try have hf1 := beq_eq_false_iff_ne.2 hf
      try have hf2 := bne_iff_ne.2 hf
      go_enter Try.func7, Try.ntmps7
      go_wp2_with (first
        | (go_at_call 20; (with_reducible refine (HA.out _).mono ?_); rintro e w1 ⟨rfl, hb⟩; have HB1 := hb; have S1 := Hs.out.on HB1; clear HA hb)
        | (go_at_call 24; (with_reducible refine (HD.out _ S1).mono ?_); rintro e w2 ⟨A1, c1, rfl, L2, hb⟩; have HB2 := bl_trans HB1 hb; have S2 := Hs.out.on HB2; clear HD hb)
        | (go_at_call 23; (with_reducible refine (HU.out _ S2).mono ?_); rintro e w3 ⟨A2, c2, rfl, T3, hb⟩; have HB3 := bl_trans HB2 hb; have L3 := L2.on' hb; clear HU hb)
        | (refine wpList_storeG rfl 34 (.tmp 6) (.tmp 29) rfl w3.heap.size _ (tbCells s i (.slice A2 _ c2)).toArray (Blk.new w3 _ _) rfl rfl (by kernel_rfl) rfl (tb_one _ _ _ _ _) ?_; intro W4 X4 G4 hs4; have hb := below_made G4; have HB4 := bl_trans HB3 hb; have L4 := L3.on' hb; have T4 := T3.on' hb; clear hb G4 hs4)
        | (go_at_call 29; (with_reducible refine (HE.out _ _ _ L4).mono ?_); rintro e w5 ⟨A3, c3, rfl, U5, hb⟩; have HB5 := bl_trans HB4 hb; have X5 := X4.call hb; have T5 := T4.on' hb; clear HE hb)
        | (refine wpList_load_row rfl 34 (.tmp 6) rfl w3.heap.size rfl 34 (tbCells s i (.slice A2 _ c2)).toArray (0, 0) _ X5 Try.underlying34 rfl (by kernel_rfl) ?_)
        | (go_at_call 22; (with_reducible refine (HP.out _ _ _ T5).mono ?_); rintro e w6 ⟨A4, c4, rfl, P6, hb⟩; have HB6 := bl_trans HB5 hb; have X6 := X5.call hb; have t13 := X6.tb13; have z1 := (U5.on hb).str (c := c3); have z2 := P6.str (c := c4); have z3 := (Hs.out.on HB6).str (c := c); clear HP hb))
      all_goals go_ret
      all_goals exact ⟨by simp, by assumption⟩
  · have hni : (6000 : Int) < (n : Int) := by omega
    go_enter Try.func7, Try.ntmps7
    go_wp2_with (go_at_call 20; (with_reducible refine (HA.out _).mono ?_); rintro e w1 ⟨rfl, hb⟩; have HB1 := hb; clear HA hb)
    all_goals go_ret
    all_goals exact ⟨rfl, HB1⟩
end Go.Proofs.Ytakajahogjeiaab.Wk
