/- Walk: peloruslaw21.DegreeJoins. -/
import Derived.Test.YtakajahogjeiaaaDegJ
namespace Go.Proofs.Ytakajahogjeiaaa.Wk
open Go.RowKit Go.Proofs.YtakajahogjeiaaaW.PrintLast
set_option linter.unusedSimpArgs false
set_option linter.unusedVariables false

theorem joined_len (xs ys : List Deg.S) (h1 : xs.length ≤ 100) (h2 : ys.length ≤ 100) : (Deg.joined xs ys).length ≤ 1000 := by
  unfold Deg.joined
  split
  · simp
  · simp; omega

set_option maxRecDepth 100000 in
set_option maxHeartbeats 4000000 in
theorem joins_calls (A B : Option Addr) (n m c d : Nat) (xs ys : List Deg.S) (w : World) (hx : SlP w w.heap.size A n xs) (hy : SlP w w.heap.size B m ys) (hnc : n ≤ c) (hmd : m ≤ d) :
    Calls Try.prog 8 #[.slice A n c, .slice B m d] w fun e w' => e = .returned (.bool true) ∧ Below w.heap.size w w' := by
  have HA := Lib.hid (fun W => awake21_calls W)
  by_cases hg : n ≤ 100 ∧ m ≤ 100
  · obtain ⟨hn, hm⟩ := hg
    have hni : ¬ (100 : Int) < (n : Int) := by omega
    have hmi : ¬ (100 : Int) < (m : Int) := by omega
    have hjl := joined_len xs ys (by have := hx.1; omega) (by have := hy.1; omega)
    have HX := Lib.hid (fun W h => winding_calls A n c xs W h (by omega))
    have HY := Lib.hid (fun W h => winding_calls B m d ys W h (by omega))
    have HJ := Lib.hid (fun W h1 h2 => joined_calls A B n m c d xs ys W h1 h2 hn hm hnc hmd)
    have HZ := Lib.hid (fun A' c' W h => winding_calls A' (Deg.joined xs ys).length c' (Deg.joined xs ys) W h hjl)
    have hb1 := Deg.wind_bd xs (by have := hx.1; omega)
    have hb2 := Deg.wind_bd ys (by have := hy.1; omega)
    have hw := Deg.wind_joined xs ys
    have Hx := Lib.hid hx
    have Hy := Lib.hid hy
    clear hx hy
    generalize Deg.wind xs = r at HX hw hb1
    generalize Deg.wind ys = s at HY hw hb2
    generalize Deg.wind (Deg.joined xs ys) = t at HZ hw
    obtain ⟨r1, r2⟩ := r
    obtain ⟨s1, s2⟩ := s
    obtain ⟨t1, t2⟩ := t
    dsimp only at HX HY HZ hw hb1 hb2
    have Hw := Lib.hid hw
    clear hw
    go_enter Try.func8, Try.ntmps8
    go_wp2_with (first
      | (go_at_call 14; (with_reducible refine (HA.out _).mono ?_); rintro e w1 ⟨rfl, hb⟩; have HB1 := hb; have S1 := Hx.out.on hb; clear HA hb)
      | (go_at_call 15; first
        | ((with_reducible refine (HX.out _ S1).mono ?_); rintro e w2 ⟨rfl, hb⟩; have HB2 := bl_trans HB1 hb; have S2 := Hy.out.on HB2; clear hb HX)
        | ((with_reducible refine (HY.out _ S2).mono ?_); rintro e w3 ⟨rfl, hb⟩; have HB3 := bl_trans HB2 hb; have S3 := Hx.out.on HB3; have S4 := Hy.out.on HB3; clear hb HY)
        | ((with_reducible refine (HZ.out _ _ _ S5).mono ?_); rintro e w5 ⟨rfl, hb⟩; have HB5 := bl_trans HB4 hb; clear hb HZ))
      | (go_at_call 20; (with_reducible refine (HJ.out _ S3 S4).mono ?_); rintro e w4 ⟨A', c', rfl, S5, hb⟩; have HB4 := bl_trans HB3 hb; clear hb HJ))
    all_goals go_ret
    all_goals refine ⟨?_, HB5⟩
    all_goals first
      | rfl
      | exact ret_bool (beq_iff_eq.2 (Hw.out (by assumption) (by assumption) (by assumption)))
  · go_enter Try.func8, Try.ntmps8
    go_wp2_with (go_at_call 14; (with_reducible refine (HA.out _).mono ?_); rintro e w1 ⟨rfl, hb1⟩; clear HA)
    all_goals first
      | (exfalso; omega)
      | (go_ret; exact ⟨by simp, hb1⟩)
end Go.Proofs.Ytakajahogjeiaaa.Wk
