/- peloruslaw23.CodecBack returns true for every slice of ops and every tube, and leaves its input as it was. -/
import Derived.Test.YtakajahogjeiaabLawCBack
import Derived.Test.YtakajahogjeiaabOpenT
import Derived.WalkKit
import Derived.ProofKit
import Derived.OpenShut
import Derived.ShutString
import Derived.ChangeOld
import Derived.Below
namespace Go.Proofs.Ytakajahogjeiaab.lawCBack
open Go.ChangeShapes Go.WideShapes Go.ChangeAt Go.RowKit Go.Proofs.Ytakajahogjeiaab.Wk
set_option linter.unusedVariables false

theorem lawWalk (L : Option Addr) (m d : Nat) (ls : List Go.Proofs.Ytakajahogjeiaab.Wk.Op) (s : Pl.Num) (i : Pl.Iv) (A : Option Addr) (n c : Nat) (xs : List Slc) (W : World) (w0 : SlO W W.heap.size L m ls ∧ ∀ x ∈ ls, U64O x) (w1 : U64 s.m ∧ U64I i ∧ SlT W W.heap.size A n xs ∧ ∀ x ∈ xs, U64S x) :
    Calls Try.prog 6 #[.slice L m d, .agg #[.int .i64 s.k, .bool s.n, .int .u64 s.m, .int .i64 s.e, .bool i.emp, .int .i64 i.lo.k, .bool i.lo.n, .int .u64 i.lo.m, .int .i64 i.lo.e, .int .i64 i.hi.k, .bool i.hi.n, .int .u64 i.hi.m, .int .i64 i.hi.e, .slice A n c]] W fun e w' => e = .returned (.bool true) ∧ Below W.heap.size W w' :=
  cback_calls L m d ls s i A n c xs w0.2 ⟨w1.1, w1.2.1, w1.2.2.2⟩ W w0.1 w1.2.2.1

set_option maxRecDepth 100000 in
theorem lifted (os : Os) (started : os.Started) (H : Type) (enc : TypeId × Value → H) :
    ReturnsInHanded {} Try.checked os 6 .any (Rows.codecBackSpec.pre6 enc Try.prog Try.f6 Rows.codecBackRow.domain false) (Rows.codecBackSpec.post enc Try.prog Try.f6 false true false false) := by
  refine returnsInHanded_of_change (C := Try.checked) own started (by kernel_rfl) Try.func6
    (ChangeSpec.witness6 (enc := enc) (C := Try.checked) false ⟨#[], #[.slice none 0 0, .agg #[.int .i64 0, .bool false, .int .u64 0, .int .i64 0, .bool false, .int .i64 0, .bool false, .int .u64 0, .int .i64 0, .int .i64 0, .bool false, .int .u64 0, .int .i64 0, .slice none 0 0]], []⟩ 32 (by kernel_rfl) (by kernel_rfl) (by kernel_rfl) (by kernel_rfl)) ?_
  intro W base args ds gs before hval0 hW hcnd _
  have hval : ∀ (j : Nat) t v, Try.f6.params[j]? = some t → args[j]? = some v → Value.okWide Try.prog W .any base t v := hval0
  have hW' := hW
  obtain ⟨p, q, hA0, hV, rfl, hfz, hnd⟩ := hW
  have hA : DataW.TrodAll enc Try.prog W 0 (fun _ => true) true Try.f6.params.toList args.toList ds p := hA0
  rw [Try.params6] at hA hval
  obtain ⟨v0, vs0, d0, ds0, p0, q0, hargs, rfl, rfl, h0, r0⟩ := trodAll_cons hA
  obtain ⟨v1, vs1, d1, ds1, p1, q1, rfl, rfl, rfl, h1, r1⟩ := trodAll_cons r0
  obtain ⟨rfl, rfl, rfl⟩ := trodAll_nil r1
  obtain rfl : args = #[v0, v1] := by cases args; simp_all
  obtain ⟨rfl, rfl⟩ := trodVars_none hV
  have k0 := h0
  have lt0 : ∀ x ∈ p0, x.block < W.heap.size := by obtain ⟨m, hm⟩ := k0; exact DataW.trod_lt m _ _ _ hm
  have k1 := h1
  have lt1 : ∀ x ∈ p1, x.block < W.heap.size := by obtain ⟨m, hm⟩ := k1; exact DataW.trod_lt m _ _ _ hm
  obtain ⟨l, ll, lc, lx, rfl, w0⟩ := openSlOU (hval 0 43 v0 rfl rfl) h0
  obtain ⟨ts, ti, t, tl, tc, tx, rfl, w1⟩ := openTb (hval 1 34 v1 rfl rfl) h1
  clear hA0 hval0
  refine (lawWalk l ll lc lx ts ti t tl tc tx W w0 w1).mono fun e W' ⟨he, bel⟩ => ?_
  subst he
  exact ⟨_, rfl, _, _, _, [], _, [], hW', trodAll_mk1 (shut_bool Try.underlying4 _), (trodAll_cons_mk (Below.trod laidOut (by kernel_rfl) (of_decide_eq_true (by kernel_rfl)) k0 bel lt0) (trodAll_cons_mk (Below.trod laidOut (by kernel_rfl) (of_decide_eq_true (by kernel_rfl)) k1 bel lt1) trodAll_mk0)), rfl, bel.frame _, fun h => by cases h⟩

theorem over : Rows.codecBackRow.holds Try.pinned (OpenSpec.ofChange Rows.codecBackSpec) :=
  OpenClaim.holds_of_wide 6 Try.f6 rfl rfl rfl rfl rfl rfl rfl ⟨rfl, rfl, rfl, rfl, rfl⟩ rfl rfl rfl rfl rfl (by kernel_rfl) Try.func6 (by kernel_rfl)
    (of_decide_eq_true (by kernel_rfl)) (by unfold Func.isWrapper; first | (rw [if_pos (by decide +kernel)]; kernel_rfl) | (rw [if_neg (by decide +kernel)]; exact ⟨rfl, rfl⟩))
    (fun os started H enc _ => lifted os started H enc)

theorem proved : Rows.CodecBackSaid := over
#print axioms proved
end Go.Proofs.Ytakajahogjeiaab.lawCBack
