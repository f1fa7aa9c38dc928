/- Walks: (*codec.rest).take, check. -/
import Derived.Test.YtakajahogjeiaabRdA
namespace Go.Proofs.Ytakajahogjeiaab.Wk
open Go.RowKit Go.Proofs.Pl Go.Proofs.YtakajahogjeiaabW.PrintLast
set_option linter.unusedSimpArgs false
set_option linter.unusedVariables false

theorem made_zero (k i : Nat) (hi : i < k) : (madeCells (Value.int .u8 0).cells (k * 1))[i]? = some (.int .u8 0) := by
  have h5 : i % 1 = 0 := Nat.mod_one i
  simp [madeCells, Value.cells, hi, h5]
set_option maxRecDepth 100000 in
set_option maxHeartbeats 2000000 in
theorem take_calls (B p : Nat) (bs : List Int) (bad : Bool) (k : Nat) (h0 : 0 < k) (hk : k ≤ 1000) (w : World) (hR : Rd w B p bs bad) :
    Calls Try.prog 72 #[.pointer (some ⟨p, 0, none⟩), .int .i64 k] w fun e w' => ∃ A, e = .returned (.slice A k k) ∧ SlB w' w'.heap.size A k (tk k bs) ∧ Rd w' B p (dr k bs) (bad || sh k bs) ∧ w.grownBy w' (some p) := by
  obtain ⟨hBp, hBy, t, A, c, hB, hS, hc, hcm⟩ := hR
  have hpl := Blk.lt hB
  obtain ⟨⟨q0, q1⟩, f0, f1⟩ := hB.c2
  unfold tk dr sh
  by_cases hlt : bs.length < k
  · rw [if_pos hlt, if_pos hlt, decide_eq_true hlt, Bool.or_true]
    obtain ⟨i0, hi, hz0, hz1, hz2⟩ := info_parts infoByte
    have hmk := run_makeSlice (P := Try.prog) (w.setCell ⟨p, 1, none⟩ (.bool true)) 35 5 i0 _ Try.underlying35 hi hz0 .i64 .i64 k k (by omega) (by omega) (by rw [hz1]; omega) (by rw [hz2]; omega) (by omega)
    rw [hz1, Int.toNat_natCast] at hmk
    have hmz := made_zero k
    generalize madeCells (Value.int .u8 0).cells (k * 1) = M at hmk hmz
    have Hmz := Lib.hid hmz
    have HR : Rd (w.setCell ⟨p, 1, none⟩ (.bool true)) B p bs true := Rd.bad ⟨hBp, hBy, t, A, c, hB, hS, hc, hcm⟩ true
    have hlti : (bs.length : Int) < (k : Int) := by omega
    clear hmz hi hz0 hz1 hz2
    generalize bs.length = n at hlt hlti q0
    go_enter Try.func72, Try.ntmps72
    go_wp2
    go_ret
    refine ⟨_, rfl, ⟨by simp, fun _ => ⟨_, 0, rfl, by simp, fun i hi => ?_⟩⟩, HR.alloc _, grown_alloc (grown_set w p 1 _) _⟩
    rw [Nat.zero_add]
    have hn := (Blk.new (w.setCell ⟨p, 1, none⟩ (.bool true)) 5 M).cell i
    rw [Hmz.out i hi] at hn
    simpa [List.getD, hi] using hn
  · rw [if_neg hlt, if_neg hlt, decide_eq_false hlt, Bool.or_false]
    have hlti : ¬ (bs.length : Int) < (k : Int) := by omega
    have hkn : k ≤ bs.length := by omega
    have hdl : (bs.drop k).length = bs.length - k := List.length_drop
    generalize hn : bs.length = n at hlt hlti q0 hkn hS hc hdl hB
    have Hn := Lib.hid hn
    clear hn
    go_enter Try.func72, Try.ntmps72
    go_wp2_with (first
      | (refine wpList_to3 rfl (.tmp 21) (.tmp 22) (.tmp 23) rfl rfl rfl rfl hS hkn hc ?_; intro A1 S1)
      | (refine wpList_from rfl (.tmp 29) (.tmp 30) rfl rfl rfl hS hkn hc ?_; intro A2 S2))
    go_ret
    refine ⟨A1, rfl, ?_, ⟨hBp, ?_, t, A2, c - k, ?_, ?_, ?_, by omega⟩, grown_set w p 0 _⟩
    · exact (S1.grown (by omega) hBp (grown_set w p 0 _)).more (by simp; omega)
    · exact fun x hx => hBy x (List.mem_of_mem_drop hx)
    · rw [hdl]; exact hB.set_ 0 _
    · rw [hdl]; exact S2.grown (by omega) hBp (grown_set w p 0 _)
    · rw [hdl]; omega
set_option maxRecDepth 100000 in
set_option maxHeartbeats 2000000 in
theorem check_calls (B p : Nat) (bs : List Int) (bad is : Bool) (w : World) (hR : Rd w B p bs bad) :
    Calls Try.prog 110 #[.pointer (some ⟨p, 0, none⟩), .bool is] w fun e w' => (∃ v, e = .returned v) ∧ Rd w' B p bs (bad || !is) ∧ w.grownBy w' (some p) := by
  have hR0 := hR
  obtain ⟨hBp, hBy, t, A, c, hB, hS, hc, hcm⟩ := hR
  obtain ⟨⟨q0, q1⟩, f0, f1⟩ := hB.c2
  cases bad <;> cases is
  all_goals
    go_enter Try.func110, Try.ntmps110
    go_wp2
    go_end0
    exact ⟨⟨_, rfl⟩, hR0.bad _, grown_set w p 1 _⟩
end Go.Proofs.Ytakajahogjeiaab.Wk
