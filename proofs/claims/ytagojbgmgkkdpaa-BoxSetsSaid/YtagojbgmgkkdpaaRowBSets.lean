import Derived.Test.YtagojbgmgkkdpaaMBr
import Derived.Test.YtagojbgmgkkdpaaOpenS
import Derived.Test.YtagojbgmgkkdpaaOpenN
import Derived.WalkKit
import Derived.ProofKit
import Derived.OpenShut
import Derived.ShutString
import Derived.ChangeOld
import Derived.Below
/- peloruslaw14.BoxSets returns true for every two boxes and every point, and leaves its input as it was. -/
namespace Go.Proofs.Ytagojbgmgkkdpaa.lawBSets
open Go.ChangeShapes Go.WideShapes Go.ChangeAt Go.RowKit Go.Proofs.Ytagojbgmgkkdpaa.Wk Go.Proofs.Pl
set_option linter.unusedVariables false

theorem wf_num {x : Num} (h : WfN x) : Wf x := wf_u64 h.2.1
theorem wf_iv {x : Iv} (h : WfI x) : WfIv x := ⟨wf_num h.1, wf_num h.2⟩
theorem lawWalk (A : Option Addr) (n c : Nat) (xs : List Iv) (B : Option Addr) (m d : Nat) (ys : List Iv) (P : Option Addr) (q f : Nat) (ps : List Num) (W : World) (w0 : SlI W W.heap.size A n xs ∧ (∀ x ∈ xs, WfI x) ∧ n ≤ maxLen) (w1 : SlI W W.heap.size B m ys ∧ (∀ x ∈ ys, WfI x) ∧ m ≤ maxLen) (w2 : SlN W W.heap.size P q ps ∧ (∀ x ∈ ps, WfN x) ∧ q ≤ maxLen) :
    Calls Try.prog 6 #[.slice A n c, .slice B m d, .slice P q f] W fun e w' => e = .returned (.bool true) ∧ Below W.heap.size W w' :=
  boxSets_calls A n c xs B m d ys P q f ps W w0.1 w1.1 w2.1 (fun x hx => wf_iv (w0.2.1 x hx)) (fun x hx => wf_iv (w1.2.1 x hx)) (fun x hx => wf_num (w2.2.1 x hx))

set_option maxRecDepth 100000 in
theorem lifted (os : Os) (started : os.Started) (H : Type) (enc : TypeId × Value → H) :
    ReturnsInHanded {} Try.checked os 6 .any (Rows.boxSetsSpec.pre6 enc Try.prog Try.f6 Rows.boxSetsRow.domain false) (Rows.boxSetsSpec.post enc Try.prog Try.f6 false true false false) := by
  refine returnsInHanded_of_change (C := Try.checked) own started (by kernel_rfl) Try.func6
    (ChangeSpec.witness6 (enc := enc) (C := Try.checked) false ⟨#[], #[.slice none 0 0, .slice none 0 0, .slice none 0 0], []⟩ 32 (by kernel_rfl) (by kernel_rfl) (by kernel_rfl) (by kernel_rfl)) ?_
  intro W base args ds gs before hval0 hW hcnd _
  have hval : ∀ (j : Nat) t v, Try.f6.params[j]? = some t → args[j]? = some v → Value.okWide Try.prog W .any base t v := hval0
  have hW' := hW
  obtain ⟨p, q, hA0, hV, rfl, hfz, hnd⟩ := hW
  have hA : DataW.TrodAll enc Try.prog W 0 (fun _ => true) true Try.f6.params.toList args.toList ds p := hA0
  rw [Try.params6] at hA hval
  obtain ⟨v0, vs0, d0, ds0, p0, q0, hargs, rfl, rfl, h0, r0⟩ := trodAll_cons hA
  obtain ⟨v1, vs1, d1, ds1, p1, q1, rfl, rfl, rfl, h1, r1⟩ := trodAll_cons r0
  obtain ⟨v2, vs2, d2, ds2, p2, q2, rfl, rfl, rfl, h2, r2⟩ := trodAll_cons r1
  obtain ⟨rfl, rfl, rfl⟩ := trodAll_nil r2
  obtain rfl : args = #[v0, v1, v2] := by cases args; simp_all
  obtain ⟨rfl, rfl⟩ := trodVars_none hV
  have k0 := h0
  have lt0 : ∀ x ∈ p0, x.block < W.heap.size := by obtain ⟨m, hm⟩ := k0; exact DataW.trod_lt m _ _ _ hm
  have k1 := h1
  have lt1 : ∀ x ∈ p1, x.block < W.heap.size := by obtain ⟨m, hm⟩ := k1; exact DataW.trod_lt m _ _ _ hm
  have k2 := h2
  have lt2 : ∀ x ∈ p2, x.block < W.heap.size := by obtain ⟨m, hm⟩ := k2; exact DataW.trod_lt m _ _ _ hm
  obtain ⟨a, al, ac, ax, rfl, w0⟩ := openSlI (hval 0 41 v0 rfl rfl) h0
  obtain ⟨b, bl, bc, bx, rfl, w1⟩ := openSlI (hval 1 41 v1 rfl rfl) h1
  obtain ⟨p, pl, pc, px, rfl, w2⟩ := openSlN (hval 2 42 v2 rfl rfl) h2
  clear hA0 hval0
  refine (lawWalk a al ac ax b bl bc bx p pl pc px W w0 w1 w2).mono fun e W' ⟨he, bel⟩ => ?_
  subst he
  exact ⟨_, rfl, _, _, _, [], _, [], hW', trodAll_mk1 (shut_bool Try.underlying4 _), (trodAll_cons_mk (Below.trod laidOut (by kernel_rfl) (of_decide_eq_true (by kernel_rfl)) k0 bel lt0) (trodAll_cons_mk (Below.trod laidOut (by kernel_rfl) (of_decide_eq_true (by kernel_rfl)) k1 bel lt1) (trodAll_cons_mk (Below.trod laidOut (by kernel_rfl) (of_decide_eq_true (by kernel_rfl)) k2 bel lt2) trodAll_mk0))), rfl, bel.frame _, fun h => by cases h⟩

theorem over : Rows.boxSetsRow.holds Try.pinned (OpenSpec.ofChange Rows.boxSetsSpec) :=
  OpenClaim.holds_of_wide 6 Try.f6 rfl rfl rfl rfl rfl rfl rfl ⟨rfl, rfl, rfl, rfl, rfl⟩ rfl rfl rfl rfl rfl (by kernel_rfl) Try.func6 (by kernel_rfl)
    (of_decide_eq_true (by kernel_rfl)) (by unfold Func.isWrapper; first | (rw [if_pos (by decide +kernel)]; kernel_rfl) | (rw [if_neg (by decide +kernel)]; exact ⟨rfl, rfl⟩))
    (fun os started H enc _ => lifted os started H enc)

theorem proved : Rows.BoxSetsSaid := over
#print axioms proved
end Go.Proofs.Ytagojbgmgkkdpaa.lawBSets

