import Derived.Test.YteabdeohhmbclaaLawPcw
import Derived.Test.YteabdeohhmbclaaOpenXw
import Derived.WalkKit
import Derived.ProofKit
import Derived.OpenShut
import Derived.ShutString
import Derived.ChangeOld
import Derived.Below
namespace Go.Proofs.Yteabdeohhmbclaa.lawPc
open Go.ChangeShapes Go.WideShapes Go.ChangeAt Go.RowKit Go.Proofs.Yteabdeohhmbclaa.Wk Go.Proofs.Pl
set_option linter.unusedVariables false
theorem lawWalk (s : Num) (i : Iv) (A : Option Addr) (n c : Nat) (xs : List Slc) (t : Num) (j : Iv) (B : Option Addr) (m d : Nat) (ys : List Slc) (g f : Num) (b : Int) (W : World) (w0 : SlT W W.heap.size A n xs ∧ WfTb s i xs) (w1 : SlT W W.heap.size B m ys ∧ WfTb t j ys) (w2 : WfN g) (w3 : WfN f) (w4 : (Lit.int .i64 b).wf = true) :
    Calls Try.prog 3 #[.agg #[.int .i64 s.k, .bool s.n, .int .u64 s.m, .int .i64 s.e, .bool i.emp, .int .i64 i.lo.k, .bool i.lo.n, .int .u64 i.lo.m, .int .i64 i.lo.e, .int .i64 i.hi.k, .bool i.hi.n, .int .u64 i.hi.m, .int .i64 i.hi.e, .slice A n c], .agg #[.int .i64 t.k, .bool t.n, .int .u64 t.m, .int .i64 t.e, .bool j.emp, .int .i64 j.lo.k, .bool j.lo.n, .int .u64 j.lo.m, .int .i64 j.lo.e, .int .i64 j.hi.k, .bool j.hi.n, .int .u64 j.hi.m, .int .i64 j.hi.e, .slice B m d], .agg #[.int .i64 g.k, .bool g.n, .int .u64 g.m, .int .i64 g.e], .agg #[.int .i64 f.k, .bool f.n, .int .u64 f.m, .int .i64 f.e], .int .i64 b] W fun e w' => e = .returned (.bool true) ∧ Below W.heap.size W w' :=
  cells_calls s.k s.n s.m s.e i.emp i.lo.k i.lo.n i.lo.m i.lo.e i.hi.k i.hi.n i.hi.m i.hi.e A n c xs t.k t.n t.m t.e j.emp j.lo.k j.lo.n j.lo.m j.lo.e j.hi.k j.hi.n j.hi.m j.hi.e B m d ys g.k g.n g.m g.e f.k f.n f.m f.e b W w0.1 w1.1 w0.2 w1.2
set_option maxRecDepth 100000 in
theorem lifted (os : Os) (started : os.Started) (H : Type) (enc : TypeId × Value → H) :
    ReturnsInHanded {} Try.checked os 3 .any (Rows.pavingCellsSpec.pre6 enc Try.prog Try.f3 Rows.pavingCellsRow.domain false) (Rows.pavingCellsSpec.post enc Try.prog Try.f3 false true false false) := by
  refine returnsInHanded_of_change (C := Try.checked) own started (by kernel_rfl) Try.func3
    (ChangeSpec.witness6 (enc := enc) (C := Try.checked) false ⟨#[], #[.agg #[.int .i64 0, .bool false, .int .u64 0, .int .i64 0, .bool false, .int .i64 0, .bool false, .int .u64 0, .int .i64 0, .int .i64 0, .bool false, .int .u64 0, .int .i64 0, .slice none 0 0], .agg #[.int .i64 0, .bool false, .int .u64 0, .int .i64 0, .bool false, .int .i64 0, .bool false, .int .u64 0, .int .i64 0, .int .i64 0, .bool false, .int .u64 0, .int .i64 0, .slice none 0 0], .agg #[.int .i64 0, .bool false, .int .u64 0, .int .i64 0], .agg #[.int .i64 0, .bool false, .int .u64 0, .int .i64 0], .int .i64 0], []⟩ 32 (by kernel_rfl) (by kernel_rfl) (by kernel_rfl) (by kernel_rfl)) ?_
  intro W base args ds gs before hval0 hW hcnd _
  have hval : ∀ (j : Nat) t v, Try.f3.params[j]? = some t → args[j]? = some v → Value.okWide Try.prog W .any base t v := hval0
  have hW' := hW
  obtain ⟨p, q, hA0, hV, rfl, hfz, hnd⟩ := hW
  have hA : DataW.TrodAll enc Try.prog W 0 (fun _ => true) true Try.f3.params.toList args.toList ds p := hA0
  rw [Try.params3] at hA hval
  obtain ⟨v0, vs0, d0, ds0, p0, q0, hargs, rfl, rfl, h0, r0⟩ := trodAll_cons hA
  obtain ⟨v1, vs1, d1, ds1, p1, q1, rfl, rfl, rfl, h1, r1⟩ := trodAll_cons r0
  obtain ⟨v2, vs2, d2, ds2, p2, q2, rfl, rfl, rfl, h2, r2⟩ := trodAll_cons r1
  obtain ⟨v3, vs3, d3, ds3, p3, q3, rfl, rfl, rfl, h3, r3⟩ := trodAll_cons r2
  obtain ⟨v4, vs4, d4, ds4, p4, q4, rfl, rfl, rfl, h4, r4⟩ := trodAll_cons r3
  obtain ⟨rfl, rfl, rfl⟩ := trodAll_nil r4
  obtain rfl : args = #[v0, v1, v2, v3, v4] := by cases args; simp_all
  obtain ⟨rfl, rfl⟩ := trodVars_none hV
  have k0 := h0
  have lt0 : ∀ x ∈ p0, x.block < W.heap.size := by obtain ⟨m, hm⟩ := k0; exact DataW.trod_lt m _ _ _ hm
  have k1 := h1
  have lt1 : ∀ x ∈ p1, x.block < W.heap.size := by obtain ⟨m, hm⟩ := k1; exact DataW.trod_lt m _ _ _ hm
  have k2 := h2
  have lt2 : ∀ x ∈ p2, x.block < W.heap.size := by obtain ⟨m, hm⟩ := k2; exact DataW.trod_lt m _ _ _ hm
  have k3 := h3
  have lt3 : ∀ x ∈ p3, x.block < W.heap.size := by obtain ⟨m, hm⟩ := k3; exact DataW.trod_lt m _ _ _ hm
  obtain ⟨xs, xi, x, xl, xc, xx, rfl, w0⟩ := openTb (hval 0 29 v0 rfl rfl) h0
  obtain ⟨ys, yi, y, yl, yc, yx, rfl, w1⟩ := openTb (hval 1 29 v1 rfl rfl) h1
  obtain ⟨g, rfl, w2⟩ := openNum (hval 2 24 v2 rfl rfl) h2
  obtain ⟨f, rfl, w3⟩ := openNum (hval 3 24 v3 rfl rfl) h3
  obtain ⟨b, rfl, rfl, rfl, w4⟩ := open_int Try.underlying3 (hval 4 3 v4 rfl rfl) h4
  clear hA0 hval0
  refine (lawWalk xs xi x xl xc xx ys yi y yl yc yx g f b W w0 w1 w2 w3 w4).mono fun e W' ⟨he, bel⟩ => ?_
  subst he
  exact ⟨_, rfl, _, _, _, [], _, [], hW', trodAll_mk1 (shut_bool Try.underlying4 _), (trodAll_cons_mk (Below.trod laidOut (by kernel_rfl) (of_decide_eq_true (by kernel_rfl)) k0 bel lt0) (trodAll_cons_mk (Below.trod laidOut (by kernel_rfl) (of_decide_eq_true (by kernel_rfl)) k1 bel lt1) (trodAll_cons_mk (Below.trod laidOut (by kernel_rfl) (of_decide_eq_true (by kernel_rfl)) k2 bel lt2) (trodAll_cons_mk (Below.trod laidOut (by kernel_rfl) (of_decide_eq_true (by kernel_rfl)) k3 bel lt3) (trodAll_cons_mk (shut_int Try.underlying3 w4) trodAll_mk0))))), rfl, bel.frame _, fun h => by cases h⟩
theorem over : Rows.pavingCellsRow.holds Try.pinned (OpenSpec.ofChange Rows.pavingCellsSpec) :=
  OpenClaim.holds_of_wide 3 Try.f3 rfl rfl rfl rfl rfl rfl rfl ⟨rfl, rfl, rfl, rfl, rfl⟩ rfl rfl rfl rfl rfl (by kernel_rfl) Try.func3 (by kernel_rfl)
    (of_decide_eq_true (by kernel_rfl)) (by unfold Func.isWrapper; first | (rw [if_pos (by decide +kernel)]; kernel_rfl) | (rw [if_neg (by decide +kernel)]; exact ⟨rfl, rfl⟩))
    (fun os started H enc _ => lifted os started H enc)
theorem proved : Rows.PavingCellsSaid := over
#print axioms proved
end Go.Proofs.Yteabdeohhmbclaa.lawPc
