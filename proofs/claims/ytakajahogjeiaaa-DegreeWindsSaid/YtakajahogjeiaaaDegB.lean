/- Walks: slices.ContainsFunc at spots that do not fit, degree.lines and its iterator, for every slice of spots (up to 1000). -/
import Derived.Test.YtakajahogjeiaaaDegA
import Derived.Test.YtakajahogjeiaaaDegS
import Derived.RangeFuncNested
import Derived.RangeFuncBound
import Derived.RangeFuncCalls
import Derived.RangeFuncLeaves
import Derived.OwnWalkIn
import Derived.TacticsInMore
import Derived.LoopNIn
import Derived.LoopIn
namespace Go.Proofs.Ytakajahogjeiaaa.Wk
open Go.RowKit Go.Proofs.YtakajahogjeiaaaW.PrintLast
set_option linter.unusedSimpArgs false
set_option linter.unusedVariables false

set_option maxHeartbeats 800000 in
theorem odd_calls (x y : Int) (w : World) :
    Calls Try.prog 47 #[.agg #[.int .i64 x, .int .i64 y]] w fun e w' => e = .returned (.bool (!Deg.fits (x, y))) ∧ Below w.heap.size w w' := by
  have HF := Lib.hid (fun W => fits_calls x y W)
  generalize Deg.fits (x, y) = p at HF ⊢
  go_enter Try.func47, Try.ntmps47
  go_wp2_with (go_at_call 48; (with_reducible refine (HF.out _).mono ?_); rintro e w1 ⟨rfl, hb⟩; have HB := bl_trans (bl_alloc (Below.refl w.heap.size w) _) hb; clear hb)
  all_goals go_ret
  all_goals exact ⟨rfl, HB⟩

set_option maxRecDepth 100000 in
set_option maxHeartbeats 2000000 in
theorem indexFunc_calls (A : Option Addr) (n c : Nat) (xs : List Deg.S) (w : World) (hs : SlP w w.heap.size A n xs) (hn : n ≤ 1000) :
    Calls Try.prog 81 #[.slice A n c, .func (.func 47) #[] #[]] w fun e w' => ∃ r, e = .returned (.int .i64 r) ∧ ((0 ≤ r ∧ xs.all Deg.fits = false) ∨ (r < 0 ∧ xs.all Deg.fits = true)) ∧ Below w.heap.size w w' := by
  go_enter Try.func81, Try.ntmps81
  go_wp2
  go_loopw [5, 8] (fun _ i wr => ∃ k : Nat, k ≤ n ∧ i = .int .i64 k ∧ (∀ j, j < k → Deg.fits (Deg.pt xs j) = true) ∧ Below w.heap.size w wr) (fun _ i _ => n - (intOf i).toNat)
  case atStart => exact ⟨0, Nat.zero_le _, rfl, fun j hj => absurd hj (Nat.not_lt_zero _), Below.refl _ _⟩
  case round =>
    obtain ⟨k, hk, rfl, hall, HB⟩ := hrel
    have Hall := Lib.hid hall
    clear hall
    by_cases hlt : k < n
    · obtain ⟨b, off, rfl, hbB, hx, e0, e1⟩ := (hs.below HB).at_ hlt
      have HO := Lib.hid (fun W => odd_calls (Deg.pt xs k).1 (Deg.pt xs k).2 W)
      have Hx := Lib.hid hx
      have Hs := Lib.hid hs
      clear hx hs
      generalize hp : Deg.fits ((Deg.pt xs k).1, (Deg.pt xs k).2) = p at HO
      have Hp : ∀ q : Bool, p = q → Hid (Deg.fits (Deg.pt xs k) = q) := fun q e => hp.trans e
      clear hp
      generalize (Deg.pt xs k).1 = x at HO e0
      generalize (Deg.pt xs k).2 = y at HO e1
      cases p
      · have hpe := Hp false rfl
        clear Hp
        go_wp2_with (go_at_call 47; (with_reducible refine (HO.out _).mono ?_); rintro e w1 ⟨rfl, hb⟩; have HB1 := bl_trans HB hb; clear hb)
        go_ret
        refine ⟨_, rfl, .inl ⟨by omega, ?_⟩, HB1⟩
        rw [List.all_eq_false]
        exact ⟨_, List.mem_of_getElem? Hx.out, by rw [show Deg.fits (Deg.pt xs k) = false from hpe]; simp⟩
      · have hpe := Hp true rfl
        clear Hp
        go_wp2_with (go_at_call 47; (with_reducible refine (HO.out _).mono ?_); rintro e w1 ⟨rfl, hb⟩; have HB1 := bl_trans HB hb; clear hb)
        go_roundw
        case rel =>
          refine ⟨k + 1, by omega, by go_num, fun j hj => ?_, HB1⟩
          by_cases e : j = k
          · subst e; exact hpe.out
          · exact Hall.out j (by omega)
        case measure => simp [intOf]; omega
    · have hkn : k = n := by omega
      subst hkn
      go_wp2
      go_ret
      refine ⟨_, rfl, .inr ⟨by omega, ?_⟩, HB⟩
      rw [List.all_eq_true]
      intro x hx
      obtain ⟨i, hi, rfl⟩ := List.getElem_of_mem hx
      have := Hall.out i (by have := hs.1; omega)
      simpa [Deg.pt, hi] using this

set_option maxRecDepth 100000 in
set_option maxHeartbeats 2000000 in
theorem containsFunc_calls (A : Option Addr) (n c : Nat) (xs : List Deg.S) (w : World) (hs : SlP w w.heap.size A n xs) (hn : n ≤ 1000) :
    Calls Try.prog 49 #[.slice A n c, .func (.func 47) #[] #[]] w fun e w' => e = .returned (.bool (!xs.all Deg.fits)) ∧ Below w.heap.size w w' := by
  have HI := Lib.hid (indexFunc_calls A n c xs w hs hn)
  generalize xs.all Deg.fits = p at HI ⊢
  go_enter Try.func49, Try.ntmps49
  go_wp2_with (go_at_call 81; refine HI.out.mono ?_; rintro e w1 ⟨r, rfl, hr, hb⟩)
  all_goals go_ret
  all_goals refine ⟨?_, hb⟩
  all_goals (rcases hr with ⟨h1, rfl⟩ | ⟨h1, rfl⟩ <;> first | rfl | (refine ret_bool ?_; simp; omega))

set_option maxHeartbeats 1000000 in
theorem lines_calls (A : Option Addr) (n c : Nat) (w : World) :
    Calls Try.prog 50 #[.slice A n c] w fun e w' => e = .returned (.func (.func 82) #[] #[.pointer (some ⟨w.heap.size, 0, none⟩)]) ∧ w' = w.alloc (.cells #[.slice A n c] 22) := by
  go_enter Try.func50, Try.ntmps50
  go_wp2
  go_ret
  exact ⟨rfl, rfl⟩
end Go.Proofs.Ytakajahogjeiaaa.Wk
