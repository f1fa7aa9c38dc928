/- peloruslaw23.CodecCuts returns true for every tube, every number and every slice of bytes, and leaves its input as it was. -/
import Derived.Test.YtakajahogjeiaabLawCCuts
import Derived.Test.YtakajahogjeiaabOpenB
import Derived.Test.YtakajahogjeiaabOpenT
import Derived.WalkKit
import Derived.ProofKit
import Derived.OpenShut
import Derived.ShutString
import Derived.ChangeOld
import Derived.Below
namespace Go.Proofs.Ytakajahogjeiaab.lawCCuts
open Go.ChangeShapes Go.WideShapes Go.ChangeAt Go.RowKit Go.Proofs.Ytakajahogjeiaab.Wk
set_option linter.unusedVariables false

theorem lawWalk (s : Pl.Num) (i : Pl.Iv) (A : Option Addr) (n c : Nat) (xs : List Slc) (k : Int) (M : Option Addr) (m d : Nat) (ms : List Int) (W : World) (w0 : U64 s.m ∧ U64I i ∧ SlT W W.heap.size A n xs ∧ ∀ x ∈ xs, U64S x) (w1 : (Lit.int .i64 k).wf = true) (w2 : SlB W W.heap.size M m ms ∧ Byt ms ∧ m ≤ d ∧ d ≤ maxLen) :
    Calls Try.prog 4 #[.agg #[.int .i64 s.k, .bool s.n, .int .u64 s.m, .int .i64 s.e, .bool i.emp, .int .i64 i.lo.k, .bool i.lo.n, .int .u64 i.lo.m, .int .i64 i.lo.e, .int .i64 i.hi.k, .bool i.hi.n, .int .u64 i.hi.m, .int .i64 i.hi.e, .slice A n c], .int .i64 k, .slice M m d] W fun e w' => e = .returned (.bool true) ∧ Below W.heap.size W w' :=
  ccuts_calls s i A n c xs k M m d ms ⟨w0.1, w0.2.1, w0.2.2.2⟩ W w0.2.2.1 w2.1 w2.2.1

set_option maxRecDepth 100000 in
theorem lifted (os : Os) (started : os.Started) (H : Type) (enc : TypeId × Value → H) :
    ReturnsInHanded {} Try.checked os 4 .any (Rows.codecCutsSpec.pre6 enc Try.prog Try.f4 Rows.codecCutsRow.domain false) (Rows.codecCutsSpec.post enc Try.prog Try.f4 false true false false) := by
  refine returnsInHanded_of_change (C := Try.checked) own started (by kernel_rfl) Try.func4
    (ChangeSpec.witness6 (enc := enc) (C := Try.checked) false ⟨#[], #[.agg #[.int .i64 0, .bool false, .int .u64 0, .int .i64 0, .bool false, .int .i64 0, .bool false, .int .u64 0, .int .i64 0, .int .i64 0, .bool false, .int .u64 0, .int .i64 0, .slice none 0 0], .int .i64 0, .slice none 0 0], []⟩ 32 (by kernel_rfl) (by kernel_rfl) (by kernel_rfl) (by kernel_rfl)) ?_
  intro W base args ds gs before hval0 hW hcnd _
  have hval : ∀ (j : Nat) t v, Try.f4.params[j]? = some t → args[j]? = some v → Value.okWide Try.prog W .any base t v := hval0
  have hW' := hW
  obtain ⟨p, q, hA0, hV, rfl, hfz, hnd⟩ := hW
  have hA : DataW.TrodAll enc Try.prog W 0 (fun _ => true) true Try.f4.params.toList args.toList ds p := hA0
  rw [Try.params4] at hA hval
  obtain ⟨v0, vs0, d0, ds0, p0, q0, hargs, rfl, rfl, h0, r0⟩ := trodAll_cons hA
  obtain ⟨v1, vs1, d1, ds1, p1, q1, rfl, rfl, rfl, h1, r1⟩ := trodAll_cons r0
  obtain ⟨v2, vs2, d2, ds2, p2, q2, rfl, rfl, rfl, h2, r2⟩ := trodAll_cons r1
  obtain ⟨rfl, rfl, rfl⟩ := trodAll_nil r2
  obtain rfl : args = #[v0, v1, v2] := by cases args; simp_all
  obtain ⟨rfl, rfl⟩ := trodVars_none hV
  have k0 := h0
  have lt0 : ∀ x ∈ p0, x.block < W.heap.size := by obtain ⟨m, hm⟩ := k0; exact DataW.trod_lt m _ _ _ hm
  have k2 := h2
  have lt2 : ∀ x ∈ p2, x.block < W.heap.size := by obtain ⟨m, hm⟩ := k2; exact DataW.trod_lt m _ _ _ hm
  obtain ⟨ts, ti, t, tl, tc, tx, rfl, w0⟩ := openTb (hval 0 34 v0 rfl rfl) h0
  obtain ⟨k, rfl, rfl, rfl, w1⟩ := open_int Try.underlying3 (hval 1 3 v1 rfl rfl) h1
  obtain ⟨m, ml, mc, mx, rfl, w2⟩ := openSlB (hval 2 35 v2 rfl rfl) h2
  clear hA0 hval0
  refine (lawWalk ts ti t tl tc tx k m ml mc mx W w0 w1 w2).mono fun e W' ⟨he, bel⟩ => ?_
  subst he
  exact ⟨_, rfl, _, _, _, [], _, [], hW', trodAll_mk1 (shut_bool Try.underlying4 _), (trodAll_cons_mk (Below.trod laidOut (by kernel_rfl) (of_decide_eq_true (by kernel_rfl)) k0 bel lt0) (trodAll_cons_mk (shut_int Try.underlying3 w1) (trodAll_cons_mk (Below.trod laidOut (by kernel_rfl) (of_decide_eq_true (by kernel_rfl)) k2 bel lt2) trodAll_mk0))), rfl, bel.frame _, fun h => by cases h⟩

theorem over : Rows.codecCutsRow.holds Try.pinned (OpenSpec.ofChange Rows.codecCutsSpec) :=
  OpenClaim.holds_of_wide 4 Try.f4 rfl rfl rfl rfl rfl rfl rfl ⟨rfl, rfl, rfl, rfl, rfl⟩ rfl rfl rfl rfl rfl (by kernel_rfl) Try.func4 (by kernel_rfl)
    (of_decide_eq_true (by kernel_rfl)) (by unfold Func.isWrapper; first | (rw [if_pos (by decide +kernel)]; kernel_rfl) | (rw [if_neg (by decide +kernel)]; exact ⟨rfl, rfl⟩))
    (fun os started H enc _ => lifted os started H enc)

theorem proved : Rows.CodecCutsSaid := over
#print axioms proved
end Go.Proofs.Ytakajahogjeiaab.lawCCuts
