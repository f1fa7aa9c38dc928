/- Walk: peloruslaw14.BoxOrder returns true, for every input. -/
import Derived.Test.YtagojbgmgkkdpaaAw14
namespace Go.Proofs.Ytagojbgmgkkdpaa.Wk
open Go.RowKit Go.Proofs.Pl Go.Proofs.YtagojbgmgkkdpaaW.PrintLast
set_option linter.unusedSimpArgs false
set_option linter.unusedVariables false

set_option maxRecDepth 100000 in
set_option maxHeartbeats 8000000 in
theorem boxOrder_calls (A : Option Addr) (n c : Nat) (xs : List Iv) (B : Option Addr) (m d : Nat) (ys : List Iv) (i : Int) (w : World) (hs : SlI w w.heap.size A n xs) (ht : SlI w w.heap.size B m ys) (wx : ∀ x ∈ xs, WfIv x) (wy : ∀ x ∈ ys, WfIv x) :
    Calls Try.prog 9 #[.slice A n c, .slice B m d, .int .i64 i] w fun e w' => e = .returned (.bool true) ∧ Below w.heap.size w w' := by
  have HB0 := Below.refl w.heap.size w
  by_cases h1 : 20 < n
  · clear hs ht wx wy
    go_enter Try.func9, Try.ntmps9
    go_wp2_with (go_at_call 32; (refine (awake14_calls _).mono ?_); rintro e' w1 ⟨rfl, hb⟩; have HB1 := bl_trans HB0 hb; clear hb)
    go_ret
    exact ⟨rfl, HB1⟩
  by_cases h2 : 20 < m
  · clear hs ht wx wy
    go_enter Try.func9, Try.ntmps9
    go_wp2_with (go_at_call 32; (refine (awake14_calls _).mono ?_); rintro e' w1 ⟨rfl, hb⟩; have HB1 := bl_trans HB0 hb; clear hb)
    go_ret
    exact ⟨rfl, HB1⟩
  by_cases h3 : n = m
  rotate_left
  · have h3' : ((n : Int) != m) = true := by simp; omega
    clear hs ht wx wy h3
    go_enter Try.func9, Try.ntmps9
    go_wp2_with (go_at_call 32; (refine (awake14_calls _).mono ?_); rintro e' w1 ⟨rfl, hb⟩; have HB1 := bl_trans HB0 hb; clear hb)
    go_ret
    exact ⟨rfl, HB1⟩
  subst h3
  have h3' : ((n : Int) != n) = false := by simp
  by_cases h4 : i < 0
  · clear hs ht wx wy
    go_enter Try.func9, Try.ntmps9
    go_wp2_with (go_at_call 32; (refine (awake14_calls _).mono ?_); rintro e' w1 ⟨rfl, hb⟩; have HB1 := bl_trans HB0 hb; clear hb)
    go_ret
    exact ⟨rfl, HB1⟩
  by_cases h5 : (n : Int) ≤ i
  · clear hs ht wx wy
    go_enter Try.func9, Try.ntmps9
    go_wp2_with (go_at_call 32; (refine (awake14_calls _).mono ?_); rintro e' w1 ⟨rfl, hb⟩; have HB1 := bl_trans HB0 hb; clear hb)
    go_ret
    exact ⟨rfl, HB1⟩
  obtain ⟨k, rfl⟩ := Int.eq_ofNat_of_zero_le (show 0 ≤ i by omega)
  have hk : k < n := by omega
  have hxy : xs.length = ys.length := by rw [hs.1, ht.1]
  obtain ⟨L1, L2, L3, L4, L5, L6, L7⟩ := law_boxorder xs ys k hxy (by rw [hs.1]; exact hk) wx wy
  have HSP := Lib.hid (fun W h => splitB_calls A n c k xs W h wx (by omega) hk)
  have HM := Lib.hid (fun W h t => meetB_calls A n c xs B n d ys W h t (by omega))
  have HH := Lib.hid (fun W h t => hullB_calls A n c xs B n d ys W h t (by omega))
  have HW1 := Lib.hid (fun A' c' W h t => withinB_calls A' n c' (meetB xs ys) A n c xs W h t (by omega))
  have HW2 := Lib.hid (fun A' c' W h t => withinB_calls A' n c' (meetB xs ys) B n d ys W h t (by omega))
  have HW3 := Lib.hid (fun A' c' W h t => withinB_calls A n c xs A' n c' (hullB xs ys) W h t (by omega))
  have HW4 := Lib.hid (fun A' c' W h t => withinB_calls B n d ys A' n c' (hullB xs ys) W h t (by omega))
  have HW5 := Lib.hid (fun A' c' W h t => withinB_calls A' n c' (halfA xs k) A n c xs W h t (by omega))
  have HW6 := Lib.hid (fun A' c' W h t => withinB_calls A' n c' (halfB xs k) A n c xs W h t (by omega))
  have HH2 := Lib.hid (fun A' c' B' d' W h t => hullB_calls A' n c' (halfA xs k) B' n d' (halfB xs k) W h t (by omega))
  have HW7 := Lib.hid (fun A' c' W h t => withinB_calls A n c xs A' n c' (hullB (halfA xs k) (halfB xs k)) W h t (by omega))
  rw [L1] at HW1
  rw [L2] at HW2
  rw [L3] at HW3
  rw [L4] at HW4
  rw [L5] at HW5
  rw [L6] at HW6
  rw [L7] at HW7
  have HML := Lib.hid ((meetB_len hxy).trans hs.1)
  have HHL := Lib.hid ((hullB_len hxy).trans hs.1)
  have HHL2 := Lib.hid (show (hullB (halfA xs k) (halfB xs k)).length = n by rw [hullB_len (by rw [halfA_len, halfB_len]), halfA_len]; exact hs.1)
  generalize hullB (halfA xs k) (halfB xs k) = hh at HH2 HW7 HHL2
  generalize meetB xs ys = mm at HM HW1 HW2 HML
  generalize hullB xs ys = hu at HH HW3 HW4 HHL
  generalize halfA xs k = ha at HSP HW5 HH2
  generalize halfB xs k = hb' at HSP HW6 HH2
  have S := Lib.hid hs
  have T := Lib.hid ht
  have h5' : ¬ (n : Int) ≤ k := h5
  clear hs ht wx wy L1 L2 L3 L4 L5 L6 L7 hxy
  go_enter Try.func9, Try.ntmps9
  go_wp2_with (first
    | (go_at_call 32; (refine (awake14_calls _).mono ?_); rintro e' w1 ⟨rfl, hb⟩; have HB1 := bl_trans HB0 hb; clear hb)
    | (go_at_call 34; (refine (HM.out w1 (S.out.on HB1) (T.out.on HB1)).mono ?_); rintro e' w2 ⟨v2, rfl, O2, hb⟩; obtain ⟨A2, c2, rfl, S2⟩ := O2.sln HML.out; have ZM := Lib.hid S2; have HB2 := bl_trans HB1 hb; clear hb O2 S2)
    | (go_at_call 47; (refine (HSP.out w3 (S.out.on HB3)).mono ?_); rintro e' w4 ⟨A4, c4, A5, c5, rfl, S4, S5, hb⟩; have HB4 := bl_trans HB3 hb; have ZM := Lib.hid (ZM.out.on hb); have ZH := Lib.hid (ZH.out.on hb); have Z1 := Lib.hid S4; have Z2 := Lib.hid S5; clear hb S4 S5)
    | (go_at_call 36; first
      | ((with_reducible refine (HH.out w2 (S.out.on HB2) (T.out.on HB2)).mono ?_); rintro e' w3 ⟨v3, rfl, O3, hb⟩; obtain ⟨A3, c3, rfl, S3⟩ := O3.sln HHL.out; have ZH := Lib.hid S3; have ZM := Lib.hid (ZM.out.on hb); have HB3 := bl_trans HB2 hb; clear hb O3 S3)
      | ((with_reducible refine (HH2.out A4 c4 A5 c5 w10 Z1.out Z2.out).mono ?_); rintro e' w11 ⟨v11, rfl, O11, hb⟩; obtain ⟨A11, c11, rfl, S11⟩ := O11.sln HHL2.out; have Z11 := Lib.hid S11; have HB11 := bl_trans HB10 hb; clear hb O11 S11))
    | (go_at_call 44; first
      | ((with_reducible refine (HW1.out A2 c2 w4 ZM.out (S.out.on HB4)).mono ?_); rintro e' w5 ⟨rfl, hb⟩; have HB5 := bl_trans HB4 hb; have ZM := Lib.hid (ZM.out.on hb); have ZH := Lib.hid (ZH.out.on hb); have Z1 := Lib.hid (Z1.out.on hb); have Z2 := Lib.hid (Z2.out.on hb); clear hb)
      | ((with_reducible refine (HW2.out A2 c2 w5 ZM.out (T.out.on HB5)).mono ?_); rintro e' w6 ⟨rfl, hb⟩; have HB6 := bl_trans HB5 hb; have ZH := Lib.hid (ZH.out.on hb); have Z1 := Lib.hid (Z1.out.on hb); have Z2 := Lib.hid (Z2.out.on hb); clear hb)
      | ((with_reducible refine (HW3.out A3 c3 w6 (S.out.on HB6) ZH.out).mono ?_); rintro e' w7 ⟨rfl, hb⟩; have HB7 := bl_trans HB6 hb; have ZH := Lib.hid (ZH.out.on hb); have Z1 := Lib.hid (Z1.out.on hb); have Z2 := Lib.hid (Z2.out.on hb); clear hb)
      | ((with_reducible refine (HW4.out A3 c3 w7 (T.out.on HB7) ZH.out).mono ?_); rintro e' w8 ⟨rfl, hb⟩; have HB8 := bl_trans HB7 hb; have Z1 := Lib.hid (Z1.out.on hb); have Z2 := Lib.hid (Z2.out.on hb); clear hb)
      | ((with_reducible refine (HW5.out A4 c4 w8 Z1.out (S.out.on HB8)).mono ?_); rintro e' w9 ⟨rfl, hb⟩; have HB9 := bl_trans HB8 hb; have Z1 := Lib.hid (Z1.out.on hb); have Z2 := Lib.hid (Z2.out.on hb); clear hb)
      | ((with_reducible refine (HW6.out A5 c5 w9 Z2.out (S.out.on HB9)).mono ?_); rintro e' w10 ⟨rfl, hb⟩; have HB10 := bl_trans HB9 hb; have Z1 := Lib.hid (Z1.out.on hb); have Z2 := Lib.hid (Z2.out.on hb); clear hb)
      | ((with_reducible refine (HW7.out A11 c11 w11 (S.out.on HB11) Z11.out).mono ?_); rintro e' w12 ⟨rfl, hb⟩; have HB12 := bl_trans HB11 hb; clear hb)))
  go_ret
  exact ⟨rfl, HB12⟩
end Go.Proofs.Ytagojbgmgkkdpaa.Wk
