/- Walk: peloruslaw14.BoxHas returns true, for every input. -/
import Derived.Test.YtagojbgmgkkdpaaAw14
namespace Go.Proofs.Ytagojbgmgkkdpaa.Wk
open Go.RowKit Go.Proofs.Pl Go.Proofs.YtagojbgmgkkdpaaW.PrintLast
set_option linter.unusedSimpArgs false
set_option linter.unusedVariables false

theorem SlN.on {w w' : World} {A : Option Addr} {n : Nat} {xs : List Num} (h : SlN w w.heap.size A n xs) (hb : Below w.heap.size w w') : SlN w' w'.heap.size A n xs := (h.below hb).more hb.size
set_option maxRecDepth 100000 in
set_option maxHeartbeats 4000000 in
theorem hasB_any (A : Option Addr) (n c : Nat) (xs : List Iv) (B : Option Addr) (m d : Nat) (ps : List Num) (w : World) (hs : SlI w w.heap.size A n xs) (ht : SlN w w.heap.size B m ps) (hn : n ≤ 1000) :
    Calls Try.prog 42 #[.slice A n c, .slice B m d] w fun e w' => e = .returned (.bool (hasL xs ps)) ∧ Below w.heap.size w w' := by
  by_cases hm : m ≤ 1000
  · exact hasB_calls A n c xs B m d ps w hs ht hn hm
  · have hq : ((n : Int) != m) = true := by simp; omega
    have : hasL xs ps = false := by
      cases h : hasL xs ps
      · rfl
      · have := hasL_len xs ps h
        rw [hs.1, ht.1] at this
        omega
    rw [this]
    clear hs ht this
    have HB0 := Below.refl w.heap.size w
    go_enter Try.func42, Try.ntmps42
    go_wp2
    go_ret
    exact ⟨rfl, HB0⟩
set_option maxRecDepth 100000 in
set_option maxHeartbeats 8000000 in
theorem boxHas_calls (A : Option Addr) (n c : Nat) (xs : List Iv) (B : Option Addr) (m d : Nat) (ys : List Iv) (C : Option Addr) (q f : Nat) (ps : List Num) (i : Int) (w : World) (hs : SlI w w.heap.size A n xs) (ht : SlI w w.heap.size B m ys) (hu : SlN w w.heap.size C q ps) (wx : ∀ x ∈ xs, WfIv x) (wy : ∀ x ∈ ys, WfIv x) (wp : ∀ x ∈ ps, Wf x) :
    Calls Try.prog 8 #[.slice A n c, .slice B m d, .slice C q f, .int .i64 i] w fun e w' => e = .returned (.bool true) ∧ Below w.heap.size w w' := by
  have HB0 := Below.refl w.heap.size w
  by_cases h1 : 20 < n
  · clear hs ht hu wx wy wp
    go_enter Try.func8, Try.ntmps8
    go_wp2_with (go_at_call 32; (refine (awake14_calls _).mono ?_); rintro e' w1 ⟨rfl, hb⟩; have HB1 := bl_trans HB0 hb; clear hb)
    go_ret
    exact ⟨rfl, HB1⟩
  by_cases h2 : 20 < m
  · clear hs ht hu wx wy wp
    go_enter Try.func8, Try.ntmps8
    go_wp2_with (go_at_call 32; (refine (awake14_calls _).mono ?_); rintro e' w1 ⟨rfl, hb⟩; have HB1 := bl_trans HB0 hb; clear hb)
    go_ret
    exact ⟨rfl, HB1⟩
  by_cases h3 : n = m
  rotate_left
  · have h3' : ((n : Int) != m) = true := by simp; omega
    clear hs ht hu wx wy wp h3
    go_enter Try.func8, Try.ntmps8
    go_wp2_with (go_at_call 32; (refine (awake14_calls _).mono ?_); rintro e' w1 ⟨rfl, hb⟩; have HB1 := bl_trans HB0 hb; clear hb)
    go_ret
    exact ⟨rfl, HB1⟩
  subst h3
  have h3' : ((n : Int) != n) = false := by simp
  by_cases h4 : i < 0
  · clear hs ht hu wx wy wp
    go_enter Try.func8, Try.ntmps8
    go_wp2_with (go_at_call 32; (refine (awake14_calls _).mono ?_); rintro e' w1 ⟨rfl, hb⟩; have HB1 := bl_trans HB0 hb; clear hb)
    go_ret
    exact ⟨rfl, HB1⟩
  by_cases h5 : (n : Int) ≤ i
  · clear hs ht hu wx wy wp
    go_enter Try.func8, Try.ntmps8
    go_wp2_with (go_at_call 32; (refine (awake14_calls _).mono ?_); rintro e' w1 ⟨rfl, hb⟩; have HB1 := bl_trans HB0 hb; clear hb)
    go_ret
    exact ⟨rfl, HB1⟩
  obtain ⟨k, rfl⟩ := Int.eq_ofNat_of_zero_le (show 0 ≤ i by omega)
  have hk : k < n := by omega
  obtain ⟨L1, L2⟩ := law_boxhas xs ys ps k (by rw [hs.1, ht.1]) (by rw [hs.1]; exact hk) wp wx wy
  have HSP := Lib.hid (fun W h => splitB_calls A n c k xs W h wx (by omega) hk)
  have HA := Lib.hid (fun W h t => hasB_any A n c xs C q f ps W h t (by omega))
  have HY := Lib.hid (fun W h t => hasB_any B n d ys C q f ps W h t (by omega))
  have HM := Lib.hid (fun W h t => meetB_calls A n c xs B n d ys W h t (by omega))
  have HMH := Lib.hid (fun A c W h t => hasB_any A n c (meetB xs ys) C q f ps W h t (by omega))
  have HX1 := Lib.hid (fun A c W h t => hasB_any A n c (halfA xs k) C q f ps W h t (by omega))
  have HX2 := Lib.hid (fun A c W h t => hasB_any A n c (halfB xs k) C q f ps W h t (by omega))
  have HML := Lib.hid (meetB_len (a := xs) (b := ys) (by rw [hs.1, ht.1]))
  have HL := Lib.hid hs.1
  generalize hasL (meetB xs ys) ps = p3 at L1 HMH
  generalize hasL (halfA xs k) ps = p4 at L2 HX1
  generalize hasL (halfB xs k) ps = p5 at L2 HX2
  generalize hasL ys ps = p2 at L1 HY
  generalize hasL xs ps = p1 at L1 L2 HA
  subst L1
  subst L2
  have S := Lib.hid hs
  have T := Lib.hid ht
  have U := Lib.hid hu
  have h5' : ¬ (n : Int) ≤ k := h5
  clear hs ht hu wx wy wp
  cases p4 <;> cases p5 <;> cases p2
  all_goals
    go_enter Try.func8, Try.ntmps8
    go_wp2_with (first
      | (go_at_call 32; (refine (awake14_calls _).mono ?_); rintro e' w1 ⟨rfl, hb⟩; have HB1 := bl_trans HB0 hb; clear hb)
      | (go_at_call 47; (refine (HSP.out w1 (S.out.on HB1)).mono ?_); rintro e' w2 ⟨A1, c1, A2, c2, rfl, S1, S2, hb⟩; have HB2 := bl_trans HB1 hb; have Z1 := Lib.hid S1; have Z2 := Lib.hid S2; clear hb S1 S2)
      | (go_at_call 34; (refine (HM.out w3 (S.out.on HB3) (T.out.on HB3)).mono ?_); rintro e' w4 ⟨v4, rfl, O4, hb⟩; obtain ⟨A5, c5, rfl, S5⟩ := O4.sln (HML.out.trans HL.out); have Z5 := Lib.hid S5; have HB4 := bl_trans HB3 hb; have Z1 := Lib.hid (Z1.out.on hb); have Z2 := Lib.hid (Z2.out.on hb); clear hb O4 S5)
      | (go_at_call 42; first
        | ((with_reducible refine (HA.out w2 (S.out.on HB2) (U.out.on HB2)).mono ?_); rintro e' w3 ⟨rfl, hb⟩; have HB3 := bl_trans HB2 hb; have Z1 := Lib.hid (Z1.out.on hb); have Z2 := Lib.hid (Z2.out.on hb); clear hb)
        | ((with_reducible refine (HMH.out A5 c5 w4 Z5.out (U.out.on HB4)).mono ?_); rintro e' w5 ⟨rfl, hb⟩; have HB5 := bl_trans HB4 hb; have HB7 := HB5; have HL7 := Lib.hid (rfl : w5 = w5); have Z1 := Lib.hid (Z1.out.on hb); have Z2 := Lib.hid (Z2.out.on hb); clear hb)
        | ((with_reducible refine (HY.out w5 (T.out.on HB5) (U.out.on HB5)).mono ?_); rintro e' w6 ⟨rfl, hb⟩; have HB6 := bl_trans HB5 hb; have Z1 := Lib.hid (Z1.out.on hb); have Z2 := Lib.hid (Z2.out.on hb); clear hb)
        | ((with_reducible refine (HX1.out A1 c1 _ Z1.out (U.out.on (by first | exact HB6 | exact HB5))).mono ?_); rintro e' w8 ⟨rfl, hb⟩; have HB8 := (by first | exact bl_trans HB6 hb | exact bl_trans HB5 hb); have Z2 := Lib.hid (Z2.out.on hb); clear hb)
        | ((with_reducible refine (HX2.out A2 c2 _ Z2.out (U.out.on HB8)).mono ?_); rintro e' w9 ⟨rfl, hb⟩; have HB9 := bl_trans HB8 hb; clear hb)))
    go_ret
    exact ⟨rfl, by first | exact HB9 | exact HB8⟩
end Go.Proofs.Ytagojbgmgkkdpaa.Wk
