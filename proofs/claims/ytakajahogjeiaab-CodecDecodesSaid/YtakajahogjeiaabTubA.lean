/- Tubes: their cells, slices of slices; may they be: both sides. -/
import Derived.Test.YtakajahogjeiaabCodE
import Derived.Test.YtakajahogjeiaabRefI
import Derived.Test.YtakajahogjeiaabCodD
namespace Go.Proofs.Ytakajahogjeiaab.Wk
open Go.RowKit Go.Proofs.Pl Go.Proofs.YtakajahogjeiaabW.PrintLast
set_option linter.unusedSimpArgs false
set_option linter.unusedVariables false

def U64 (m : Int) : Prop := 0 ≤ m ∧ m < 18446744073709551616
def U64I (x : Iv) : Prop := U64 x.lo.m ∧ U64 x.hi.m
def U64O (x : Op) : Prop := U64 x.t.m ∧ U64I x.a ∧ U64I x.b ∧ U64I x.c
structure Slc where
  e : Num
  a : Iv
  o : Iv
structure Tb where
  s : Num
  i : Iv
  l : List Slc
def slcCells (x : Slc) : List Value := [.int .i64 x.e.k, .bool x.e.n, .int .u64 x.e.m, .int .i64 x.e.e, .bool x.a.emp, .int .i64 x.a.lo.k, .bool x.a.lo.n, .int .u64 x.a.lo.m, .int .i64 x.a.lo.e, .int .i64 x.a.hi.k, .bool x.a.hi.n, .int .u64 x.a.hi.m, .int .i64 x.a.hi.e, .bool x.o.emp, .int .i64 x.o.lo.k, .bool x.o.lo.n, .int .u64 x.o.lo.m, .int .i64 x.o.lo.e, .int .i64 x.o.hi.k, .bool x.o.hi.n, .int .u64 x.o.hi.m, .int .i64 x.o.hi.e]
def whenN (x : Num) : Bool := mayN x && (x.k != 2)
def maySl : Num → List Slc → Bool
  | _, [] => true
  | last, s :: l => whenN s.e && decide (0 < cmpN s.e last) && mayI s.a && mayI s.o && maySl s.e l
def mayT (t : Tb) : Bool := whenN t.s && mayI t.i && decide (t.l.length ≤ 64) && maySl t.s t.l
/-- A slice of slices, below block B. -/
def SlT (w : World) (B : Nat) (A : Option Addr) (n : Nat) (xs : List Slc) : Prop :=
  xs.length = n ∧ (0 < n → ∃ b off, A = some ⟨b, off, none⟩ ∧ b < B ∧ ∀ (i : Nat) (x : Slc), xs[i]? = some x → ∀ (j : Nat) (u : Value), (slcCells x)[j]? = some u → w.cell? ⟨b, off + i * 22 + j, none⟩ = some u)
section
variable {w w' : World} {B B' n : Nat} {A : Option Addr} {xs : List Slc}
theorem SlT.keep (h : SlT w B A n xs) (hk : ∀ b o, b < B → w'.cell? ⟨b, o, none⟩ = w.cell? ⟨b, o, none⟩) : SlT w' B A n xs :=
  ⟨h.1, fun hn => by
    obtain ⟨b, off, e, hb, hc⟩ := h.2 hn
    exact ⟨b, off, e, hb, fun i x hx j u hu => (hk b _ hb).trans (hc i x hx j u hu)⟩⟩
theorem SlT.below (h : SlT w B A n xs) (hb : Below B w w') : SlT w' B A n xs := h.keep fun b o hlt => hb.cell (p := ⟨b, o, none⟩) hlt
theorem SlT.more (h : SlT w B A n xs) (hB : B ≤ B') : SlT w B' A n xs := ⟨h.1, fun hn => by obtain ⟨b, off, e, hb, hc⟩ := h.2 hn; exact ⟨b, off, e, by omega, hc⟩⟩
theorem SlT.on (h : SlT w w.heap.size A n xs) (hb : Below w.heap.size w w') : SlT w' w'.heap.size A n xs := (h.below hb).more hb.size
end
section
variable {ops : Array Oper} {rest : List Oper} {o : Oper} {a : Act} {Q : Exit → Act → World → Prop} {W : World}
/-- a whole row is stored -/
theorem wpList_storeT (hgd : o.guard = none) (ty : TypeId) (p q : Operand) (ho : o.op = .store ty p q) (g : Nat) (zs cs : Array Value) (hB : Blk W g ty zs) (hp : a.eval p = .pointer (some ⟨g, 0, none⟩)) (hq : a.eval q = .agg cs) (hi : (Try.prog.info? ty).map (·.size) = some cs.size) (hz : zs.size = cs.size) (h1 : cs.all (·.oneCell') = true)
    (h : ∀ W1, Blk W1 g ty cs → (∀ k t ds, k ≠ g → Blk W k t ds → Blk W1 k t ds) → (∀ B w, B ≤ g → Below B w W → Below B w W1) → wpList Try.prog ops Q rest (a.put o.dst undef) W1) : wpList Try.prog ops Q (o :: rest) a W :=
  wpList_store_row hgd ty p q ho g cs hp hq ty zs hB hi hz h1
    (h _ (setRow_heap _ g _ cs ty (0, 0) hB) (fun k t ds hk hb => (setRow_other W g k cs hk).trans hb) fun B w hg hb => bl_setRow hb hg cs)
/-- a whole row is loaded from the middle of a slice -/
theorem wpList_loadT (hgd : o.guard = none) (p : Operand) (ho : o.op = .load 88 p) (b off : Nat) (hp : a.eval p = .pointer (some ⟨b, off, none⟩)) (x : Slc) (hr : World.rangeAt W b off (slcCells x))
    (h : wpList Try.prog ops Q rest (a.put o.dst (.agg (slcCells x).toArray)) W) : wpList Try.prog ops Q (o :: rest) a W :=
  wpList_load_mid hgd 88 p ho b off hp (slcCells x) _ hr Try.underlying88 rfl (by kernel_rfl) h
end
theorem slc_one (x : Slc) : (slcCells x).toArray.all (·.oneCell') = true := by simp [slcCells, Value.oneCell']
theorem maySl_cons {last : Num} {xs : List Slc} {k : Nat} {x : Slc} (h : xs[k]? = some x) : maySl last (xs.drop k) = (whenN x.e && decide (0 < cmpN x.e last) && mayI x.a && mayI x.o && maySl x.e (xs.drop (k + 1))) := by
  obtain ⟨hk, e⟩ := List.getElem?_eq_some_iff.1 h
  rw [List.drop_eq_getElem_cons hk, e, maySl]

set_option maxRecDepth 100000 in
set_option maxHeartbeats 2000000 in
theorem finite_calls (a0 : Int) (a1 : Bool) (a2 a3 : Int) (w : World) :
    Calls Try.prog 106 #[.agg #[.int .i64 a0, .bool a1, .int .u64 a2, .int .i64 a3]] w fun e w' => e = .returned (.bool (whenN ⟨a0, a1, a2, a3⟩)) ∧ Below w.heap.size w w' := by
  unfold whenN
  have HN := Lib.hid (fun W => mayN_calls a0 a1 a2 a3 W)
  generalize mayN ⟨a0, a1, a2, a3⟩ = m at HN ⊢
  go_enter Try.func106, Try.ntmps106
  go_wp2_with (go_at_call 63; (with_reducible refine (HN.out _).mono ?_); rintro e w1 ⟨rfl, hb⟩; have BX1 := (Blk.new w _ _).call hb; have HL1 := bl_trans (bl_alloc (Below.refl w.heap.size w) _) hb; obtain ⟨⟨q0, q1, q2, q3⟩, _⟩ := BX1.c4; clear hb HN)
  all_goals go_ret
  all_goals refine ⟨?_, HL1⟩
  all_goals first
    | rfl
    | (refine ret_boolC ?_; simp_all; done)
set_option maxRecDepth 100000 in
set_option maxHeartbeats 2000000 in
theorem when_calls (a0 : Int) (a1 : Bool) (a2 a3 : Int) (w : World) :
    Calls Try.prog 113 #[.agg #[.int .i64 a0, .bool a1, .int .u64 a2, .int .i64 a3]] w fun e w' => e = .returned (.bool (whenN ⟨a0, a1, a2, a3⟩)) ∧ Below w.heap.size w w' := by
  unfold whenN
  have HN := Lib.hid (fun W => rmayN_calls a0 a1 a2 a3 W)
  generalize mayN ⟨a0, a1, a2, a3⟩ = m at HN ⊢
  go_enter Try.func113, Try.ntmps113
  go_wp2_with (go_at_call 111; (with_reducible refine (HN.out _).mono ?_); rintro e w1 ⟨rfl, hb⟩; have BX1 := (Blk.new w _ _).call hb; have HL1 := bl_trans (bl_alloc (Below.refl w.heap.size w) _) hb; obtain ⟨⟨q0, q1, q2, q3⟩, _⟩ := BX1.c4; clear hb HN)
  all_goals go_ret
  all_goals refine ⟨?_, HL1⟩
  all_goals first
    | rfl
    | (refine ret_boolC ?_; simp_all; done)
set_option maxRecDepth 100000 in
set_option maxHeartbeats 2000000 in
theorem few_calls (s0 : Int) (s1 : Bool) (s2 s3 : Int) (i0 : Bool) (i1 : Int) (i2 : Bool) (i3 i4 i5 : Int) (i6 : Bool) (i7 i8 : Int) (A : Option Addr) (n c : Nat) (w : World) :
    Calls Try.prog 21 #[.agg #[.int .i64 s0, .bool s1, .int .u64 s2, .int .i64 s3, .bool i0, .int .i64 i1, .bool i2, .int .u64 i3, .int .i64 i4, .int .i64 i5, .bool i6, .int .u64 i7, .int .i64 i8, .slice A n c]] w fun e w' => e = .returned (.bool (decide (n ≤ 70))) ∧ Below w.heap.size w w' := by
  have HL := bl_alloc (Below.refl w.heap.size w) (.cells #[.int .i64 s0, .bool s1, .int .u64 s2, .int .i64 s3, .bool i0, .int .i64 i1, .bool i2, .int .u64 i3, .int .i64 i4, .int .i64 i5, .bool i6, .int .u64 i7, .int .i64 i8, .slice A n c] 34)
  go_enter Try.func21, Try.ntmps21
  go_wp2
  all_goals go_ret
  all_goals refine ⟨?_, HL⟩
  all_goals (refine ret_boolC ?_; simp_all <;> omega)
end Go.Proofs.Ytakajahogjeiaab.Wk
