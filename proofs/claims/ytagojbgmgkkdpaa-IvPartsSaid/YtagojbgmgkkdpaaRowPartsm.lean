/- peloruslaw08.IvParts returns true for every interval and every number, and leaves its input as it was. -/
import Derived.Test.YtagojbgmgkkdpaaLawPartsm
import Derived.Test.YtagojbgmgkkdpaaOpenD
import Derived.WalkKit
import Derived.ProofKit
import Derived.OpenShut
import Derived.ShutString
import Derived.ChangeOld
import Derived.Below
namespace Go.Proofs.Ytagojbgmgkkdpaa.lawParts
open Go.ChangeShapes Go.WideShapes Go.ChangeAt Go.RowKit Go.Proofs.Ytagojbgmgkkdpaa.Wk Go.Proofs.Pl
set_option linter.unusedVariables false

theorem wf_num {x : Num} (h : WfN x) : Wf x := wf_u64 h.2.1
theorem wf_iv {x : Iv} (h : WfI x) : WfIv x := ⟨wf_num h.1, wf_num h.2⟩
theorem lawWalk (x : Iv) (b : Num) (W : World) (w0 : WfI x) (w1 : WfN b) :
    Calls Try.prog 5 #[.agg #[.bool (x).emp, .int .i64 ((x).lo).k, .bool ((x).lo).n, .int .u64 ((x).lo).m, .int .i64 ((x).lo).e, .int .i64 ((x).hi).k, .bool ((x).hi).n, .int .u64 ((x).hi).m, .int .i64 ((x).hi).e], .agg #[.int .i64 (b).k, .bool (b).n, .int .u64 (b).m, .int .i64 (b).e]] W fun e w' => e = .returned (.bool true) ∧ Below W.heap.size W w' := by
  obtain ⟨x0, ⟨x1, x2, x3, x4⟩, ⟨x5, x6, x7, x8⟩⟩ := x
  obtain ⟨b0, b1, b2, b3⟩ := b
  exact ivParts_calls _ _ _ _ _ _ _ _ _ _ _ _ _ W (wf_iv w0) (wf_num w1)

set_option maxRecDepth 100000 in
theorem lifted (os : Os) (started : os.Started) (H : Type) (enc : TypeId × Value → H) :
    ReturnsInHanded {} Try.checked os 5 .any (Rows.ivPartsSpec.pre6 enc Try.prog Try.f5 Rows.ivPartsRow.domain false) (Rows.ivPartsSpec.post enc Try.prog Try.f5 false true false false) := by
  refine returnsInHanded_of_change (C := Try.checked) own started (by kernel_rfl) Try.func5
    (ChangeSpec.witness6 (enc := enc) (C := Try.checked) false ⟨#[], #[.agg #[.bool false, .int .i64 0, .bool false, .int .u64 0, .int .i64 0, .int .i64 0, .bool false, .int .u64 0, .int .i64 0], .agg #[.int .i64 0, .bool false, .int .u64 0, .int .i64 0]], []⟩ 32 (by kernel_rfl) (by kernel_rfl) (by kernel_rfl) (by kernel_rfl)) ?_
  intro W base args ds gs before hval0 hW hcnd _
  have hval : ∀ (j : Nat) t v, Try.f5.params[j]? = some t → args[j]? = some v → Value.okWide Try.prog W .any base t v := hval0
  have hW' := hW
  obtain ⟨p, q, hA0, hV, rfl, hfz, hnd⟩ := hW
  have hA : DataW.TrodAll enc Try.prog W 0 (fun _ => true) true Try.f5.params.toList args.toList ds p := hA0
  rw [Try.params5] at hA hval
  obtain ⟨v0, vs0, d0, ds0, p0, q0, hargs, rfl, rfl, h0, r0⟩ := trodAll_cons hA
  obtain ⟨v1, vs1, d1, ds1, p1, q1, rfl, rfl, rfl, h1, r1⟩ := trodAll_cons r0
  obtain ⟨rfl, rfl, rfl⟩ := trodAll_nil r1
  obtain rfl : args = #[v0, v1] := by cases args; simp_all
  obtain ⟨rfl, rfl⟩ := trodVars_none hV
  have k0 := h0
  have lt0 : ∀ x ∈ p0, x.block < W.heap.size := by obtain ⟨m, hm⟩ := k0; exact DataW.trod_lt m _ _ _ hm
  have k1 := h1
  have lt1 : ∀ x ∈ p1, x.block < W.heap.size := by obtain ⟨m, hm⟩ := k1; exact DataW.trod_lt m _ _ _ hm
  obtain ⟨x, rfl, w0⟩ := openIv (hval 0 26 v0 rfl rfl) h0
  obtain ⟨b, rfl, w1⟩ := openNum (hval 1 24 v1 rfl rfl) h1
  clear hA0 hval0
  refine (lawWalk x b W w0 w1).mono fun e W' ⟨he, bel⟩ => ?_
  subst he
  exact ⟨_, rfl, _, _, _, [], _, [], hW', trodAll_mk1 (shut_bool Try.underlying4 _), (trodAll_cons_mk (Below.trod laidOut (by kernel_rfl) (of_decide_eq_true (by kernel_rfl)) k0 bel lt0) (trodAll_cons_mk (Below.trod laidOut (by kernel_rfl) (of_decide_eq_true (by kernel_rfl)) k1 bel lt1) trodAll_mk0)), rfl, bel.frame _, fun h => by cases h⟩

theorem over : Rows.ivPartsRow.holds Try.pinned (OpenSpec.ofChange Rows.ivPartsSpec) :=
  OpenClaim.holds_of_wide 5 Try.f5 rfl rfl rfl rfl rfl rfl rfl ⟨rfl, rfl, rfl, rfl, rfl⟩ rfl rfl rfl rfl rfl (by kernel_rfl) Try.func5 (by kernel_rfl)
    (of_decide_eq_true (by kernel_rfl)) (by unfold Func.isWrapper; first | (rw [if_pos (by decide +kernel)]; kernel_rfl) | (rw [if_neg (by decide +kernel)]; exact ⟨rfl, rfl⟩))
    (fun os started H enc _ => lifted os started H enc)

theorem proved : Rows.IvPartsSaid := over
#print axioms proved
end Go.Proofs.Ytagojbgmgkkdpaa.lawParts
