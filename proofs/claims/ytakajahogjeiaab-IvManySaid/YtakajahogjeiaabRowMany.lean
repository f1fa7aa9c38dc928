/- peloruslaw08.IvMany returns true for every three intervals, and leaves its input as it was. -/
import Derived.Test.YtakajahogjeiaabLawMany
import Derived.Test.YtakajahogjeiaabOpenD
import Derived.WalkKit
import Derived.ProofKit
import Derived.OpenShut
import Derived.ShutString
import Derived.ChangeOld
import Derived.Below
namespace Go.Proofs.Ytakajahogjeiaab.lawMany
open Go.ChangeShapes Go.WideShapes Go.ChangeAt Go.RowKit Go.Proofs.Ytakajahogjeiaab.Wk Go.Proofs.Pl
set_option linter.unusedVariables false

theorem wf_num {x : Num} (h : WfN x) : Wf x := wf_u64 h.2.1
theorem wf_iv {x : Iv} (h : WfI x) : WfIv x := ⟨wf_num h.1, wf_num h.2⟩
theorem lawWalk (a b c : Iv) (W : World) (w0 : WfI a) (w1 : WfI b) (w2 : WfI c) :
    Calls Try.prog 3 #[.agg #[.bool (a).emp, .int .i64 ((a).lo).k, .bool ((a).lo).n, .int .u64 ((a).lo).m, .int .i64 ((a).lo).e, .int .i64 ((a).hi).k, .bool ((a).hi).n, .int .u64 ((a).hi).m, .int .i64 ((a).hi).e], .agg #[.bool (b).emp, .int .i64 ((b).lo).k, .bool ((b).lo).n, .int .u64 ((b).lo).m, .int .i64 ((b).lo).e, .int .i64 ((b).hi).k, .bool ((b).hi).n, .int .u64 ((b).hi).m, .int .i64 ((b).hi).e], .agg #[.bool (c).emp, .int .i64 ((c).lo).k, .bool ((c).lo).n, .int .u64 ((c).lo).m, .int .i64 ((c).lo).e, .int .i64 ((c).hi).k, .bool ((c).hi).n, .int .u64 ((c).hi).m, .int .i64 ((c).hi).e]] W fun e w' => e = .returned (.bool true) ∧ Below W.heap.size W w' := by
  obtain ⟨a0, ⟨a1, a2, a3, a4⟩, ⟨a5, a6, a7, a8⟩⟩ := a
  obtain ⟨b0, ⟨b1, b2, b3, b4⟩, ⟨b5, b6, b7, b8⟩⟩ := b
  obtain ⟨c0, ⟨c1, c2, c3, c4⟩, ⟨c5, c6, c7, c8⟩⟩ := c
  exact ivMany_calls _ _ _ _ _ _ _ _ _ _ _ _ _ _ _ _ _ _ _ _ _ _ _ _ _ _ _ W (wf_iv w0) (wf_iv w1) (wf_iv w2)

set_option maxRecDepth 100000 in
theorem lifted (os : Os) (started : os.Started) (H : Type) (enc : TypeId × Value → H) :
    ReturnsInHanded {} Try.checked os 3 .any (Rows.ivManySpec.pre6 enc Try.prog Try.f3 Rows.ivManyRow.domain false) (Rows.ivManySpec.post enc Try.prog Try.f3 false true false false) := by
  refine returnsInHanded_of_change (C := Try.checked) own started (by kernel_rfl) Try.func3
    (ChangeSpec.witness6 (enc := enc) (C := Try.checked) false ⟨#[], #[.agg #[.bool false, .int .i64 0, .bool false, .int .u64 0, .int .i64 0, .int .i64 0, .bool false, .int .u64 0, .int .i64 0], .agg #[.bool false, .int .i64 0, .bool false, .int .u64 0, .int .i64 0, .int .i64 0, .bool false, .int .u64 0, .int .i64 0], .agg #[.bool false, .int .i64 0, .bool false, .int .u64 0, .int .i64 0, .int .i64 0, .bool false, .int .u64 0, .int .i64 0]], []⟩ 32 (by kernel_rfl) (by kernel_rfl) (by kernel_rfl) (by kernel_rfl)) ?_
  intro W base args ds gs before hval0 hW hcnd _
  have hval : ∀ (j : Nat) t v, Try.f3.params[j]? = some t → args[j]? = some v → Value.okWide Try.prog W .any base t v := hval0
  have hW' := hW
  obtain ⟨p, q, hA0, hV, rfl, hfz, hnd⟩ := hW
  have hA : DataW.TrodAll enc Try.prog W 0 (fun _ => true) true Try.f3.params.toList args.toList ds p := hA0
  rw [Try.params3] at hA hval
  obtain ⟨v0, vs0, d0, ds0, p0, q0, hargs, rfl, rfl, h0, r0⟩ := trodAll_cons hA
  obtain ⟨v1, vs1, d1, ds1, p1, q1, rfl, rfl, rfl, h1, r1⟩ := trodAll_cons r0
  obtain ⟨v2, vs2, d2, ds2, p2, q2, rfl, rfl, rfl, h2, r2⟩ := trodAll_cons r1
  obtain ⟨rfl, rfl, rfl⟩ := trodAll_nil r2
  obtain rfl : args = #[v0, v1, v2] := by cases args; simp_all
  obtain ⟨rfl, rfl⟩ := trodVars_none hV
  have k0 := h0
  have lt0 : ∀ x ∈ p0, x.block < W.heap.size := by obtain ⟨m, hm⟩ := k0; exact DataW.trod_lt m _ _ _ hm
  have k1 := h1
  have lt1 : ∀ x ∈ p1, x.block < W.heap.size := by obtain ⟨m, hm⟩ := k1; exact DataW.trod_lt m _ _ _ hm
  have k2 := h2
  have lt2 : ∀ x ∈ p2, x.block < W.heap.size := by obtain ⟨m, hm⟩ := k2; exact DataW.trod_lt m _ _ _ hm
  obtain ⟨a, rfl, w0⟩ := openIv (hval 0 26 v0 rfl rfl) h0
  obtain ⟨b, rfl, w1⟩ := openIv (hval 1 26 v1 rfl rfl) h1
  obtain ⟨c, rfl, w2⟩ := openIv (hval 2 26 v2 rfl rfl) h2
  clear hA0 hval0
  refine (lawWalk a b c W w0 w1 w2).mono fun e W' ⟨he, bel⟩ => ?_
  subst he
  exact ⟨_, rfl, _, _, _, [], _, [], hW', trodAll_mk1 (shut_bool Try.underlying4 _), (trodAll_cons_mk (Below.trod laidOut (by kernel_rfl) (of_decide_eq_true (by kernel_rfl)) k0 bel lt0) (trodAll_cons_mk (Below.trod laidOut (by kernel_rfl) (of_decide_eq_true (by kernel_rfl)) k1 bel lt1) (trodAll_cons_mk (Below.trod laidOut (by kernel_rfl) (of_decide_eq_true (by kernel_rfl)) k2 bel lt2) trodAll_mk0))), rfl, bel.frame _, fun h => by cases h⟩

theorem over : Rows.ivManyRow.holds Try.pinned (OpenSpec.ofChange Rows.ivManySpec) :=
  OpenClaim.holds_of_wide 3 Try.f3 rfl rfl rfl rfl rfl rfl rfl ⟨rfl, rfl, rfl, rfl, rfl⟩ rfl rfl rfl rfl rfl (by kernel_rfl) Try.func3 (by kernel_rfl)
    (of_decide_eq_true (by kernel_rfl)) (by unfold Func.isWrapper; first | (rw [if_pos (by decide +kernel)]; kernel_rfl) | (rw [if_neg (by decide +kernel)]; exact ⟨rfl, rfl⟩))
    (fun os started H enc _ => lifted os started H enc)

theorem proved : Rows.IvManySaid := over
#print axioms proved
end Go.Proofs.Ytakajahogjeiaab.lawMany
