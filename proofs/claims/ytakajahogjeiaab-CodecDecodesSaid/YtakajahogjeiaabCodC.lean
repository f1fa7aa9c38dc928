/- Ops: their cells, may, Encode. -/
import Derived.Test.YtakajahogjeiaabCodB
namespace Go.Proofs.Ytakajahogjeiaab.Wk
open Go.RowKit Go.Proofs.Pl Go.Proofs.YtakajahogjeiaabW.PrintLast
set_option linter.unusedSimpArgs false
set_option linter.unusedVariables false

structure Op where
  k : Int
  t : Num
  a : Iv
  b : Iv
  c : Iv
def opCells (x : Op) : List Value := [.int .i64 x.k, .int .i64 x.t.k, .bool x.t.n, .int .u64 x.t.m, .int .i64 x.t.e, .bool x.a.emp, .int .i64 x.a.lo.k, .bool x.a.lo.n, .int .u64 x.a.lo.m, .int .i64 x.a.lo.e, .int .i64 x.a.hi.k, .bool x.a.hi.n, .int .u64 x.a.hi.m, .int .i64 x.a.hi.e, .bool x.b.emp, .int .i64 x.b.lo.k, .bool x.b.lo.n, .int .u64 x.b.lo.m, .int .i64 x.b.lo.e, .int .i64 x.b.hi.k, .bool x.b.hi.n, .int .u64 x.b.hi.m, .int .i64 x.b.hi.e, .bool x.c.emp, .int .i64 x.c.lo.k, .bool x.c.lo.n, .int .u64 x.c.lo.m, .int .i64 x.c.lo.e, .int .i64 x.c.hi.k, .bool x.c.hi.n, .int .u64 x.c.hi.m, .int .i64 x.c.hi.e]
def mayOp (x : Op) : Bool := decide (0 ≤ x.k ∧ x.k ≤ 3) && (mayN x.t && (mayI x.a && (mayI x.b && mayI x.c)))
def encOp (x : Op) : List Int := [x.k % 256] ++ encN x.t ++ encIs [x.a, x.b, x.c]
def encOps (l : List Op) : List Int := l.flatMap encOp
theorem encOps_snoc (l : List Op) (x : Op) : encOps (l ++ [x]) = encOps l ++ encOp x := by simp [encOps]
theorem encOps_app (l m : List Op) : encOps (l ++ m) = encOps l ++ encOps m := by simp [encOps]
theorem encOp_length (x : Op) : (encOp x).length ≤ 95 := by
  have h1 := encN_length x.t
  have h2 := encIs_length [x.a, x.b, x.c]
  simp only [encOp, List.length_append, List.length_cons, List.length_nil] at h2 ⊢
  omega
theorem encOps_length (l : List Op) : (encOps l).length ≤ 95 * l.length := by
  induction l with
  | nil => simp [encOps]
  | cons a l ih =>
    have := encOp_length a
    simp only [encOps, List.flatMap_cons, List.length_append, List.length_cons] at ih ⊢
    omega
/-- A slice of ops, below block B. -/
def SlO (w : World) (B : Nat) (A : Option Addr) (n : Nat) (xs : List Op) : Prop :=
  xs.length = n ∧ (0 < n → ∃ b off, A = some ⟨b, off, none⟩ ∧ b < B ∧ ∀ (i : Nat) (x : Op), xs[i]? = some x → ∀ (j : Nat) (u : Value), (opCells x)[j]? = some u → w.cell? ⟨b, off + i * 32 + j, none⟩ = some u)
section
variable {w w' : World} {B B' n : Nat} {A : Option Addr} {xs : List Op}
theorem SlO.keep (h : SlO w B A n xs) (hk : ∀ b o, b < B → w'.cell? ⟨b, o, none⟩ = w.cell? ⟨b, o, none⟩) : SlO w' B A n xs :=
  ⟨h.1, fun hn => by
    obtain ⟨b, off, e, hb, hc⟩ := h.2 hn
    exact ⟨b, off, e, hb, fun i x hx j u hu => (hk b _ hb).trans (hc i x hx j u hu)⟩⟩
theorem SlO.below (h : SlO w B A n xs) (hb : Below B w w') : SlO w' B A n xs := h.keep fun b o hlt => hb.cell (p := ⟨b, o, none⟩) hlt
theorem SlO.more (h : SlO w B A n xs) (hB : B ≤ B') : SlO w B' A n xs := ⟨h.1, fun hn => by obtain ⟨b, off, e, hb, hc⟩ := h.2 hn; exact ⟨b, off, e, by omega, hc⟩⟩
theorem SlO.on (h : SlO w w.heap.size A n xs) (hb : Below w.heap.size w w') : SlO w' w'.heap.size A n xs := (h.below hb).more hb.size
end
theorem ret_boolC {a b : Bool} (h : a = b) : Ending.returned (.bool a) = Ending.returned (.bool b) := by rw [h]
theorem Blk.at_ {w : World} {g : Nat} {t : TypeId} {cs : Array Value} {u : Value} (h : Blk w g t cs) (i : Nat) (hu : cs[i]? = some u) : w.cell? ⟨g, i, none⟩ = some u := (h.cell i).trans hu

set_option maxRecDepth 100000 in
set_option maxHeartbeats 4000000 in
theorem may_calls (k0 : Int) (t0 : Int) (t1 : Bool) (t2 t3 : Int) (a0 : Bool) (a1 : Int) (a2 : Bool) (a3 a4 a5 : Int) (a6 : Bool) (a7 a8 : Int) (b0 : Bool) (b1 : Int) (b2 : Bool) (b3 b4 b5 : Int) (b6 : Bool) (b7 b8 : Int) (c0 : Bool) (c1 : Int) (c2 : Bool) (c3 c4 c5 : Int) (c6 : Bool) (c7 c8 : Int) (w : World) :
    Calls Try.prog 75 #[.agg #[.int .i64 k0, .int .i64 t0, .bool t1, .int .u64 t2, .int .i64 t3, .bool a0, .int .i64 a1, .bool a2, .int .u64 a3, .int .i64 a4, .int .i64 a5, .bool a6, .int .u64 a7, .int .i64 a8, .bool b0, .int .i64 b1, .bool b2, .int .u64 b3, .int .i64 b4, .int .i64 b5, .bool b6, .int .u64 b7, .int .i64 b8, .bool c0, .int .i64 c1, .bool c2, .int .u64 c3, .int .i64 c4, .int .i64 c5, .bool c6, .int .u64 c7, .int .i64 c8]] w fun e w' => e = .returned (.bool (mayOp ⟨k0, ⟨t0, t1, t2, t3⟩, ⟨a0, ⟨a1, a2, a3, a4⟩, ⟨a5, a6, a7, a8⟩⟩, ⟨b0, ⟨b1, b2, b3, b4⟩, ⟨b5, b6, b7, b8⟩⟩, ⟨c0, ⟨c1, c2, c3, c4⟩, ⟨c5, c6, c7, c8⟩⟩⟩)) ∧ Below w.heap.size w w' := by
  have HN := Lib.hid (fun W => mayN_calls t0 t1 t2 t3 W)
  have HA := Lib.hid (fun W => mayI_calls a0 a1 a2 a3 a4 a5 a6 a7 a8 W)
  have HB := Lib.hid (fun W => mayI_calls b0 b1 b2 b3 b4 b5 b6 b7 b8 W)
  have HC := Lib.hid (fun W => mayI_calls c0 c1 c2 c3 c4 c5 c6 c7 c8 W)
  unfold mayOp
  dsimp only
  generalize mayN ⟨t0, t1, t2, t3⟩ = m1 at HN ⊢
  generalize mayI ⟨a0, ⟨a1, a2, a3, a4⟩, ⟨a5, a6, a7, a8⟩⟩ = m2 at HA ⊢
  generalize mayI ⟨b0, ⟨b1, b2, b3, b4⟩, ⟨b5, b6, b7, b8⟩⟩ = m3 at HB ⊢
  generalize mayI ⟨c0, ⟨c1, c2, c3, c4⟩, ⟨c5, c6, c7, c8⟩⟩ = m4 at HC ⊢
  go_enter Try.func75, Try.ntmps75
  go_wp2_with (first
    | (go_at_call 63; (with_reducible refine (HN.out _).mono ?_); rintro e w1 ⟨rfl, hb⟩; have BX1 := (Blk.new w _ _).call hb; have HL1 := bl_trans (bl_alloc (Below.refl w.heap.size w) _) hb; have y5 := BX1.at_ 5 rfl; have y6 := BX1.at_ 6 rfl; have y7 := BX1.at_ 7 rfl; have y8 := BX1.at_ 8 rfl; have y9 := BX1.at_ 9 rfl; have y10 := BX1.at_ 10 rfl; have y11 := BX1.at_ 11 rfl; have y12 := BX1.at_ 12 rfl; have y13 := BX1.at_ 13 rfl; clear hb HN)
    | (go_at_call 15; first
      | ((with_reducible refine (HA.out _).mono ?_); rintro e w2 ⟨rfl, hb⟩; have BX2 := BX1.call hb; have HL2 := bl_trans HL1 hb; clear y5 y6 y7 y8 y9 y10 y11 y12 y13; have y14 := BX2.at_ 14 rfl; have y15 := BX2.at_ 15 rfl; have y16 := BX2.at_ 16 rfl; have y17 := BX2.at_ 17 rfl; have y18 := BX2.at_ 18 rfl; have y19 := BX2.at_ 19 rfl; have y20 := BX2.at_ 20 rfl; have y21 := BX2.at_ 21 rfl; have y22 := BX2.at_ 22 rfl; clear hb HA)
      | ((with_reducible refine (HB.out _).mono ?_); rintro e w3 ⟨rfl, hb⟩; have BX3 := BX2.call hb; have HL3 := bl_trans HL2 hb; clear y14 y15 y16 y17 y18 y19 y20 y21 y22; have y23 := BX3.at_ 23 rfl; have y24 := BX3.at_ 24 rfl; have y25 := BX3.at_ 25 rfl; have y26 := BX3.at_ 26 rfl; have y27 := BX3.at_ 27 rfl; have y28 := BX3.at_ 28 rfl; have y29 := BX3.at_ 29 rfl; have y30 := BX3.at_ 30 rfl; have y31 := BX3.at_ 31 rfl; clear hb HB)
      | ((with_reducible refine (HC.out _).mono ?_); rintro e w4 ⟨rfl, hb⟩; have HL4 := bl_trans HL3 hb; clear hb HC)))
  all_goals go_ret
  all_goals refine ⟨?_, by first | exact HL4 | exact HL3 | exact HL2 | exact HL1 | exact bl_alloc (Below.refl w.heap.size w) _⟩
  all_goals first
    | rfl
    | (refine ret_boolC ?_; simp_all; done)
    | (refine ret_boolC ?_; simp_all; omega)
end Go.Proofs.Ytakajahogjeiaab.Wk
