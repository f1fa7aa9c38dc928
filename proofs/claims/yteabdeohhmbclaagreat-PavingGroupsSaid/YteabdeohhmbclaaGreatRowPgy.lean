import Derived.Test.YteabdeohhmbclaaGreatLawPgy
import Derived.Test.YteabdeohhmbclaaGreatOpenXy
import Derived.WalkKit
import Derived.ProofKit
import Derived.OpenShut
import Derived.ShutString
import Derived.ChangeOld
import Derived.Below
namespace Go.Proofs.YteabdeohhmbclaaGreat.lawPg
open Go.ChangeShapes Go.WideShapes Go.ChangeAt Go.RowKit Go.Proofs.YteabdeohhmbclaaGreat.Wk Go.Proofs.Pl
set_option linter.unusedVariables false
theorem wf_num {x : Num} (h : WfN x) : Wf x := wf_u64 h.2.1
theorem wf_iv {x : Iv} (h : WfI x) : WfIv x := ⟨wf_num h.1, wf_num h.2⟩
theorem lawWalk (A : Option Addr) (n c : Nat) (xs : List Cl) (W : World) (w0 : SlC W W.heap.size A n xs ∧ (∀ x ∈ xs, WfI x.p.a ∧ WfI x.p.b) ∧ n ≤ c) :
  Calls Tryz.prog 3 #[.slice A n c] W fun e w' => e = .returned (.bool true) ∧ Below W.heap.size W w' :=
 lgroups_calls A n c xs W w0.1 (fun x hx => ⟨wf_iv (w0.2.1 x hx).1, wf_iv (w0.2.1 x hx).2⟩)
set_option maxRecDepth 100000 in
theorem lifted (os : Os) (started : os.Started) (H : Type) (enc : TypeId × Value → H) :
  ReturnsInHanded {} Tryz.checked os 3 .any (Rows.pavingGroupsSpec.pre6 enc Tryz.prog Tryz.f3 Rows.pavingGroupsRow.domain false) (Rows.pavingGroupsSpec.post enc Tryz.prog Tryz.f3 false true false false) := by
 refine returnsInHanded_of_change (C := Tryz.checked) own started (by kernel_rfl) Tryz.func3
  (ChangeSpec.witness6 (enc := enc) (C := Tryz.checked) false ⟨#[], #[.slice none 0 0], []⟩ 32 (by kernel_rfl) (by kernel_rfl) (by kernel_rfl) (by kernel_rfl)) ?_
 intro W base args ds gs before hval0 hW hcnd _
 have hval : ∀ (j : Nat) t v, Tryz.f3.params[j]? = some t → args[j]? = some v → Value.okWide Tryz.prog W .any base t v := hval0
 have hW' := hW
 obtain ⟨p, q, hA0, hV, rfl, hfz, hnd⟩ := hW
 have hA : DataW.TrodAll enc Tryz.prog W 0 (fun _ => true) true Tryz.f3.params.toList args.toList ds p := hA0
 rw [Tryz.params3] at hA hval
 obtain ⟨v0, vs0, d0, ds0, p0, q0, hargs, rfl, rfl, h0, r0⟩ := trodAll_cons hA
 obtain ⟨rfl, rfl, rfl⟩ := trodAll_nil r0
 obtain rfl : args = #[v0] := by cases args; simp_all
 obtain ⟨rfl, rfl⟩ := trodVars_none hV
 have k0 := h0
 have lt0 : ∀ x ∈ p0, x.block < W.heap.size := by obtain ⟨m, hm⟩ := k0; exact DataW.trod_lt m _ _ _ hm
 obtain ⟨a, al, ac, ax, rfl, w0⟩ := openSlC (hval 0 22 v0 rfl rfl) h0
 clear hA0 hval0
 refine (lawWalk a al ac ax W w0).mono fun e W' ⟨he, bel⟩ => ?_
 subst he
 exact ⟨_, rfl, _, _, _, [], _, [], hW', trodAll_mk1 (shut_bool Tryz.underlying4 _), (trodAll_cons_mk (Below.trod laidOut (by kernel_rfl) (of_decide_eq_true (by kernel_rfl)) k0 bel lt0) trodAll_mk0), rfl, bel.frame _, fun h => by cases h⟩
theorem over : Rows.pavingGroupsRow.holds Tryz.pinned (OpenSpec.ofChange Rows.pavingGroupsSpec) :=
 OpenClaim.holds_of_wide 3 Tryz.f3 rfl rfl rfl rfl rfl rfl rfl ⟨rfl, rfl, rfl, rfl, rfl⟩ rfl rfl rfl rfl rfl (by kernel_rfl) Tryz.func3 (by kernel_rfl)
  (of_decide_eq_true (by kernel_rfl)) (by unfold Func.isWrapper; first | (rw [if_pos (by decide +kernel)]; kernel_rfl) | (rw [if_neg (by decide +kernel)]; exact ⟨rfl, rfl⟩))
  (fun os started H enc _ => lifted os started H enc)
theorem proved : Rows.PavingGroupsSaid := over
#print axioms proved
end Go.Proofs.YteabdeohhmbclaaGreat.lawPg
