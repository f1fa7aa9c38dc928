/- Bytes as a string; walk: peloruslaw23.awake. -/
import Derived.Test.YtakajahogjeiaabCodD
import Derived.Test.YtakajahogjeiaabCodE
namespace Go.Proofs.Ytakajahogjeiaab.Wk
open Go.RowKit Go.Proofs.Pl Go.Proofs.YtakajahogjeiaabW.PrintLast
set_option linter.unusedSimpArgs false
set_option linter.unusedVariables false

/-- bytes as a string -/
theorem SlB.str {w : World} {B n c : Nat} {A : Option Addr} {xs : List Int} (h : SlB w B A n xs) : (convert 35 9 (.slice A n c)).run Try.prog w = .ok (.string (strOfNums xs)) w := by
  by_cases h0 : n = 0
  · subst h0
    have hx : xs = [] := List.eq_nil_of_length_eq_zero h.1
    subst hx
    cases A with
    | none => exact run_convert_bytes_nil w 35 5 Try.underlying35 Try.underlying5 0 c 9 Try.underlying9
    | some a =>
      obtain ⟨b, off, spot⟩ := a
      rw [run_convert_bytes_string w 35 9 5 _ 0 c Try.underlying35 Try.underlying5 Try.underlying9, run_bytesToString w _ 0 c [] (by rfl)]
      rfl
  · obtain ⟨b, off, rfl, _, hc⟩ := h.2 (by omega)
    exact run_convert_bytes_arg w 35 5 Try.underlying35 Try.underlying5 b off n c xs h.1 hc 9 Try.underlying9

def zeroOp : Op := ⟨0, ⟨0, false, 0, 0⟩, ⟨false, ⟨0, false, 0, 0⟩, ⟨0, false, 0, 0⟩⟩, ⟨false, ⟨0, false, 0, 0⟩, ⟨0, false, 0, 0⟩⟩, ⟨false, ⟨0, false, 0, 0⟩, ⟨0, false, 0, 0⟩⟩⟩

set_option maxRecDepth 100000 in
set_option maxHeartbeats 4000000 in
theorem awake23_calls (w : World) : Calls Try.prog 20 #[] w fun e w' => e = .returned (.bool true) ∧ Below w.heap.size w w' := by
  have HE := Lib.hid (fun A c W h => encode_calls A 1 c [zeroOp] W h (by omega))
  rw [show encAll [zeroOp] = [0, 0, 1, 0, 0, 1, 0, 0, 1, 0, 0] from by decide +kernel, show encErr [zeroOp] = 0 from by decide +kernel] at HE
  simp only [List.length_cons, List.length_nil, Nat.reduceAdd] at HE
  have hlit : strOfNums [0, 0, 1, 0, 0, 1, 0, 0, 1, 0, 0] = ⟨#[0, 0, 1, 0, 0, 1, 0, 0, 1, 0, 0]⟩ := by decide +kernel
  go_enter Try.func20, Try.ntmps20
  go_wp2_with (go_at_call 29; (refine (HE.out _ _ _ (SlO.lit1 (x := zeroOp) (Blk.new w _ _) (by simp))).mono ?_); rintro e w1 ⟨A', c', rfl, S, hb⟩; have HB := bl_trans (bl_alloc (Below.refl w.heap.size w) _) hb; have hst := S.str (c := c'); rw [hlit] at hst; clear hb HE)
  all_goals go_ret
  all_goals exact ⟨rfl, HB⟩
end Go.Proofs.Ytakajahogjeiaab.Wk
