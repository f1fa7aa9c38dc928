/- Walk: codec.Encode, for every slice of ops (up to 256). -/
import Derived.Test.YtakajahogjeiaabCodC
import Derived.Deep.MidRow
import Derived.Laws.Tables
namespace Go.Proofs.Ytakajahogjeiaab.Wk
open Go.RowKit Go.Proofs.Pl Go.Proofs.YtakajahogjeiaabW.PrintLast
set_option linter.unusedSimpArgs false
set_option linter.unusedVariables false

/-- A slice of bytes, below block B. -/
def SlB (w : World) (B : Nat) (A : Option Addr) (n : Nat) (xs : List Int) : Prop :=
  xs.length = n ∧ (0 < n → ∃ b off, A = some ⟨b, off, none⟩ ∧ b < B ∧ ∀ i, i < n → w.cell? ⟨b, off + i, none⟩ = some (.int .u8 (xs.getD i 0)))
theorem SlB.keep {w w' : World} {B n : Nat} {A : Option Addr} {xs : List Int} (h : SlB w B A n xs) (hk : ∀ b o, b < B → w'.cell? ⟨b, o, none⟩ = w.cell? ⟨b, o, none⟩) : SlB w' B A n xs :=
  ⟨h.1, fun hn => by
    obtain ⟨b, off, e, hb, hc⟩ := h.2 hn
    exact ⟨b, off, e, hb, fun i hi => (hk b _ hb).trans (hc i hi)⟩⟩
theorem SlB.on {w w' : World} {n : Nat} {A : Option Addr} {xs : List Int} (h : SlB w w.heap.size A n xs) (hb : Below w.heap.size w w') : SlB w' w'.heap.size A n xs := by
  have h1 := h.keep (w' := w') fun b o hlt => hb.cell (p := ⟨b, o, none⟩) hlt
  exact ⟨h1.1, fun hn => by obtain ⟨b, off, e, hlt, hc⟩ := h1.2 hn; exact ⟨b, off, e, Nat.lt_of_lt_of_le hlt hb.size, hc⟩⟩
theorem OwnB.sl {w : World} {base : Nat} {v : Value} {xs : List Int} (h : OwnB w base v xs) : ∃ A c, v = .slice A xs.length c ∧ SlB w w.heap.size A xs.length xs := by
  rcases h.2 with ⟨rfl, hn⟩ | ⟨g, cap, cur, rfl, hb, hg, hnc, hcm, hcs, htake⟩
  · exact ⟨none, 0, by rw [hn], rfl, fun h0 => absurd hn (by omega)⟩
  · refine ⟨_, cap, rfl, rfl, fun _ => ⟨g, 0, rfl, ?_, fun i hi => ?_⟩⟩
    · rcases Nat.lt_or_ge g w.heap.size with hlt | hge
      · exact hlt
      · rw [Array.getElem?_eq_none hge] at hg; cases hg
    · have hc := World.ownsRow.cellAt h i (by omega)
      rw [Nat.zero_add]
      refine hc.trans ?_
      simp [flatB, List.getD, hi]
theorem mayOp_calls (x : Op) (w : World) : Calls Try.prog 75 #[.agg (opCells x).toArray] w fun e w' => e = .returned (.bool (mayOp x)) ∧ Below w.heap.size w w' := by
  obtain ⟨k0, ⟨t0, t1, t2, t3⟩, ⟨a0, ⟨a1, a2, a3, a4⟩, ⟨a5, a6, a7, a8⟩⟩, ⟨b0, ⟨b1, b2, b3, b4⟩, ⟨b5, b6, b7, b8⟩⟩, ⟨c0, ⟨c1, c2, c3, c4⟩, ⟨c5, c6, c7, c8⟩⟩⟩ := x
  exact may_calls k0 t0 t1 t2 t3 a0 a1 a2 a3 a4 a5 a6 a7 a8 b0 b1 b2 b3 b4 b5 b6 b7 b8 c0 c1 c2 c3 c4 c5 c6 c7 c8 w
theorem bl_setRow {w W : World} {B g : Nat} (h : Below B w W) (hg : B ≤ g) (cs : Array Value) : Below B w (W.setRow g cs) :=
  ⟨h.os, h.tape, h.output, by have := h.size; simpa [World.setRow] using this, fun k hk => (setRow_other W g k cs (by omega)).trans (h.block k hk)⟩
theorem opCells_one (x : Op) : (opCells x).toArray.all (·.oneCell') = true := by simp [opCells, Value.oneCell']
theorem wpList_storeOp {ops : Array Oper} {rest : List Oper} {o : Oper} {a : Act} {Q : Exit → Act → World → Prop} {w0 : World} {zs : Array Value} {x : Op} (hgd : o.guard = none) (p q : Operand) (ho : o.op = .store 82 p q) (hp : a.eval p = .pointer (some ⟨w0.heap.size, 0, none⟩)) (hq : a.eval q = .agg (opCells x).toArray) (hz : zs.size = 32)
    (h : ∀ W1, Blk W1 w0.heap.size 82 (opCells x).toArray → Below w0.heap.size w0 W1 → wpList Try.prog ops Q rest (a.put o.dst undef) W1) : wpList Try.prog ops Q (o :: rest) a (w0.alloc (.cells zs 82)) :=
  wpList_store_row hgd 82 p q ho w0.heap.size (opCells x).toArray hp hq 82 zs (heap_alloc_new w0 _) (by kernel_rfl) (by rw [hz]; rfl) (opCells_one x)
    (h _ (setRow_heap _ w0.heap.size _ (opCells x).toArray 82 (0, 0) (heap_alloc_new w0 (.cells zs 82))) (bl_setRow ((Below.refl _ _).alloc (Nat.le_refl _) _) (Nat.le_refl _) _))
theorem ivs3 (a b c : Iv) : ∀ (i : Nat) (x : Iv), [a, b, c][i]? = some x → (#[.bool a.emp, .int .i64 a.lo.k, .bool a.lo.n, .int .u64 a.lo.m, .int .i64 a.lo.e, .int .i64 a.hi.k, .bool a.hi.n, .int .u64 a.hi.m, .int .i64 a.hi.e, .bool b.emp, .int .i64 b.lo.k, .bool b.lo.n, .int .u64 b.lo.m, .int .i64 b.lo.e, .int .i64 b.hi.k, .bool b.hi.n, .int .u64 b.hi.m, .int .i64 b.hi.e, .bool c.emp, .int .i64 c.lo.k, .bool c.lo.n, .int .u64 c.lo.m, .int .i64 c.lo.e, .int .i64 c.hi.k, .bool c.hi.n, .int .u64 c.hi.m, .int .i64 c.hi.e] : Array Value)[i * 9]? = some (.bool x.emp) ∧ (#[.bool a.emp, .int .i64 a.lo.k, .bool a.lo.n, .int .u64 a.lo.m, .int .i64 a.lo.e, .int .i64 a.hi.k, .bool a.hi.n, .int .u64 a.hi.m, .int .i64 a.hi.e, .bool b.emp, .int .i64 b.lo.k, .bool b.lo.n, .int .u64 b.lo.m, .int .i64 b.lo.e, .int .i64 b.hi.k, .bool b.hi.n, .int .u64 b.hi.m, .int .i64 b.hi.e, .bool c.emp, .int .i64 c.lo.k, .bool c.lo.n, .int .u64 c.lo.m, .int .i64 c.lo.e, .int .i64 c.hi.k, .bool c.hi.n, .int .u64 c.hi.m, .int .i64 c.hi.e] : Array Value)[i * 9 + 1]? = some (.int .i64 x.lo.k) ∧ (#[.bool a.emp, .int .i64 a.lo.k, .bool a.lo.n, .int .u64 a.lo.m, .int .i64 a.lo.e, .int .i64 a.hi.k, .bool a.hi.n, .int .u64 a.hi.m, .int .i64 a.hi.e, .bool b.emp, .int .i64 b.lo.k, .bool b.lo.n, .int .u64 b.lo.m, .int .i64 b.lo.e, .int .i64 b.hi.k, .bool b.hi.n, .int .u64 b.hi.m, .int .i64 b.hi.e, .bool c.emp, .int .i64 c.lo.k, .bool c.lo.n, .int .u64 c.lo.m, .int .i64 c.lo.e, .int .i64 c.hi.k, .bool c.hi.n, .int .u64 c.hi.m, .int .i64 c.hi.e] : Array Value)[i * 9 + 2]? = some (.bool x.lo.n) ∧ (#[.bool a.emp, .int .i64 a.lo.k, .bool a.lo.n, .int .u64 a.lo.m, .int .i64 a.lo.e, .int .i64 a.hi.k, .bool a.hi.n, .int .u64 a.hi.m, .int .i64 a.hi.e, .bool b.emp, .int .i64 b.lo.k, .bool b.lo.n, .int .u64 b.lo.m, .int .i64 b.lo.e, .int .i64 b.hi.k, .bool b.hi.n, .int .u64 b.hi.m, .int .i64 b.hi.e, .bool c.emp, .int .i64 c.lo.k, .bool c.lo.n, .int .u64 c.lo.m, .int .i64 c.lo.e, .int .i64 c.hi.k, .bool c.hi.n, .int .u64 c.hi.m, .int .i64 c.hi.e] : Array Value)[i * 9 + 3]? = some (.int .u64 x.lo.m) ∧ (#[.bool a.emp, .int .i64 a.lo.k, .bool a.lo.n, .int .u64 a.lo.m, .int .i64 a.lo.e, .int .i64 a.hi.k, .bool a.hi.n, .int .u64 a.hi.m, .int .i64 a.hi.e, .bool b.emp, .int .i64 b.lo.k, .bool b.lo.n, .int .u64 b.lo.m, .int .i64 b.lo.e, .int .i64 b.hi.k, .bool b.hi.n, .int .u64 b.hi.m, .int .i64 b.hi.e, .bool c.emp, .int .i64 c.lo.k, .bool c.lo.n, .int .u64 c.lo.m, .int .i64 c.lo.e, .int .i64 c.hi.k, .bool c.hi.n, .int .u64 c.hi.m, .int .i64 c.hi.e] : Array Value)[i * 9 + 4]? = some (.int .i64 x.lo.e) ∧ (#[.bool a.emp, .int .i64 a.lo.k, .bool a.lo.n, .int .u64 a.lo.m, .int .i64 a.lo.e, .int .i64 a.hi.k, .bool a.hi.n, .int .u64 a.hi.m, .int .i64 a.hi.e, .bool b.emp, .int .i64 b.lo.k, .bool b.lo.n, .int .u64 b.lo.m, .int .i64 b.lo.e, .int .i64 b.hi.k, .bool b.hi.n, .int .u64 b.hi.m, .int .i64 b.hi.e, .bool c.emp, .int .i64 c.lo.k, .bool c.lo.n, .int .u64 c.lo.m, .int .i64 c.lo.e, .int .i64 c.hi.k, .bool c.hi.n, .int .u64 c.hi.m, .int .i64 c.hi.e] : Array Value)[i * 9 + 5]? = some (.int .i64 x.hi.k) ∧ (#[.bool a.emp, .int .i64 a.lo.k, .bool a.lo.n, .int .u64 a.lo.m, .int .i64 a.lo.e, .int .i64 a.hi.k, .bool a.hi.n, .int .u64 a.hi.m, .int .i64 a.hi.e, .bool b.emp, .int .i64 b.lo.k, .bool b.lo.n, .int .u64 b.lo.m, .int .i64 b.lo.e, .int .i64 b.hi.k, .bool b.hi.n, .int .u64 b.hi.m, .int .i64 b.hi.e, .bool c.emp, .int .i64 c.lo.k, .bool c.lo.n, .int .u64 c.lo.m, .int .i64 c.lo.e, .int .i64 c.hi.k, .bool c.hi.n, .int .u64 c.hi.m, .int .i64 c.hi.e] : Array Value)[i * 9 + 6]? = some (.bool x.hi.n) ∧ (#[.bool a.emp, .int .i64 a.lo.k, .bool a.lo.n, .int .u64 a.lo.m, .int .i64 a.lo.e, .int .i64 a.hi.k, .bool a.hi.n, .int .u64 a.hi.m, .int .i64 a.hi.e, .bool b.emp, .int .i64 b.lo.k, .bool b.lo.n, .int .u64 b.lo.m, .int .i64 b.lo.e, .int .i64 b.hi.k, .bool b.hi.n, .int .u64 b.hi.m, .int .i64 b.hi.e, .bool c.emp, .int .i64 c.lo.k, .bool c.lo.n, .int .u64 c.lo.m, .int .i64 c.lo.e, .int .i64 c.hi.k, .bool c.hi.n, .int .u64 c.hi.m, .int .i64 c.hi.e] : Array Value)[i * 9 + 7]? = some (.int .u64 x.hi.m) ∧ (#[.bool a.emp, .int .i64 a.lo.k, .bool a.lo.n, .int .u64 a.lo.m, .int .i64 a.lo.e, .int .i64 a.hi.k, .bool a.hi.n, .int .u64 a.hi.m, .int .i64 a.hi.e, .bool b.emp, .int .i64 b.lo.k, .bool b.lo.n, .int .u64 b.lo.m, .int .i64 b.lo.e, .int .i64 b.hi.k, .bool b.hi.n, .int .u64 b.hi.m, .int .i64 b.hi.e, .bool c.emp, .int .i64 c.lo.k, .bool c.lo.n, .int .u64 c.lo.m, .int .i64 c.lo.e, .int .i64 c.hi.k, .bool c.hi.n, .int .u64 c.hi.m, .int .i64 c.hi.e] : Array Value)[i * 9 + 8]? = some (.int .i64 x.hi.e) := by
  intro i x h
  match i, h with
  | 0, h => cases h; exact ⟨rfl, rfl, rfl, rfl, rfl, rfl, rfl, rfl, rfl⟩
  | 1, h => cases h; exact ⟨rfl, rfl, rfl, rfl, rfl, rfl, rfl, rfl, rfl⟩
  | 2, h => cases h; exact ⟨rfl, rfl, rfl, rfl, rfl, rfl, rfl, rfl, rfl⟩
  | i + 3, h => simp at h
/-- What Encode hands back. -/
def encAll (l : List Op) : List Int := if l.all mayOp then encOps l else []
def encErr (l : List Op) : Int := if l.all mayOp then 0 else 1

set_option maxRecDepth 100000 in
set_option maxHeartbeats 8000000 in
theorem encode_calls (A : Option Addr) (n c : Nat) (xs : List Op) (w : World) (hs : SlO w w.heap.size A n xs) (hn : n ≤ 256) :
    Calls Try.prog 29 #[.slice A n c] w fun e w' => ∃ A' c', e = .returned (.tuple #[.slice A' (encAll xs).length c', .int .i64 (encErr xs)]) ∧ SlB w' w'.heap.size A' (encAll xs).length (encAll xs) ∧ Below w.heap.size w w' := by
  have hni : ¬ (256 : Int) < (n : Int) := by omega
  go_enter Try.func29, Try.ntmps29
  go_wp2
  go_loopw [6, 12] (fun _ i wr => ∃ k : Nat, k ≤ n ∧ i = .int .i64 k ∧ (xs.take k).all mayOp = true ∧ Wr wr w.heap.size w.heap.size (encOps (xs.take k)) ∧ Below w.heap.size w wr) (fun _ i _ => n - (intOf i).toNat)
  case atStart => exact ⟨0, Nat.zero_le _, rfl, rfl, ⟨Nat.le_refl _, _, Blk.new w _ _, OwnB.nil _ _⟩, bl_alloc (Below.refl _ _) _⟩
  case round =>
    obtain ⟨k, hk, rfl, hall, HWr, HB⟩ := hrel
    have hbs : w.heap.size ≤ wr.heap.size := HB.size
    by_cases hlt : k < n
    · obtain ⟨b, off, rfl, hbB, hcc⟩ := (hs.below HB).2 (by omega)
      obtain ⟨x, hx⟩ : ∃ x, xs[k]? = some x := ⟨_, List.getElem?_eq_getElem (show k < xs.length by have := hs.1; omega)⟩
      have hcx := hcc k _ hx
      have htk : xs.take (k + 1) = xs.take k ++ [x] := by rw [List.take_add_one, hx]; rfl
      have hen := encOps_snoc (xs.take k) x
      have hal : (xs.take (k + 1)).all mayOp = ((xs.take k).all mayOp && mayOp x) := by rw [htk]; simp
      have hbad : mayOp x = false → encAll xs = [] ∧ encErr xs = 1 := fun h => by
        have : xs.all mayOp = false := by
          rw [List.all_eq_false]
          exact ⟨_, List.mem_of_getElem? hx, by rw [h]; simp⟩
        unfold encAll encErr
        rw [this]
        exact ⟨rfl, rfl⟩
      rw [← htk] at hen
      have hlen := encOps_length (xs.take k)
      have hlk : (xs.take k).length ≤ k := by rw [List.length_take]; omega
      have hel := encOp_length x
      rw [hall, Bool.true_and] at hal
      have HM := Lib.hid (fun W => mayOp_calls x W)
      generalize hmy : mayOp x = my at HM hal hbad
      have Hen := Lib.hid hen
      have Hal := Lib.hid hal
      have Hbad := Lib.hid hbad
      have Hs := Lib.hid hs
      have hxl : (encOps (xs.take k)).length ≤ 30000 := by omega
      have hrg : World.rangeAt wr b (off + k * 32) (opCells x) := hcx
      clear hcc hx hcx htk hen hal hbad hlen hlk hall hmy hs hel
      generalize encOps (xs.take k) = L at HWr hxl Hen
      obtain ⟨_, v, hB, hO⟩ := HWr
      have hpl := hB.lt
      have hne : w.heap.size ≠ wr.heap.size := by omega
      have Hld := Lib.hid (fun (ops : Array Oper) (rest : List Oper) (op : Oper) (a : Act) (Q : Exit → Act → World → Prop) (hgd : op.guard = none) (ho : op.op = .load 82 (.tmp 14)) (hx : a.eval (.tmp 14) = .pointer (some ⟨b, off + k * 32, none⟩)) (h : wpList Try.prog ops Q rest (a.put op.dst (.agg (opCells x).toArray)) wr) =>
        wpList_load_mid hgd 82 (.tmp 14) ho b (off + k * 32) hx (opCells x) _ hrg Try.underlying82 rfl (by kernel_rfl) h)
      have HN := Lib.hid (fun xs' W h1 h2 h3 => wnum_calls w.heap.size w.heap.size xs' x.t.k x.t.n x.t.m x.t.e W h1 h2 h3)
      have hnl := encN_length x.t
      cases my
      · clear HN hnl
        go_wp2_with (first
          | (refine Hld.out _ _ _ _ _ rfl rfl rfl ?_)
          | (refine wpList_storeOp (x := x) rfl (.tmp 6) (.tmp 15) rfl rfl rfl rfl ?_
             intro W1 BX hBel
             have HB1 := hB.call hBel
             have HO1 : OwnB W1 w.heap.size v L := hO.same fun g hg => hBel.block g (hO.lt g hg).2
             have HL1 := HB.trans (hBel.mono hbs)
             clear hBel)
          | (refine wpList_load_row rfl 82 (.tmp 6) rfl wr.heap.size rfl 82 (opCells x).toArray (0, 0) _ BX Try.underlying82 rfl (by kernel_rfl) ?_)
          | (go_at_call 75; (with_reducible refine (HM.out _).mono ?_); rintro e w2 ⟨rfl, hb⟩; have HL2 := bl_trans HL1 hb; clear hb))
        go_ret2
        obtain ⟨z1, z2⟩ := Hbad.out (by simp)
        rw [z1, z2]
        exact ⟨none, 0, rfl, ⟨rfl, fun h => absurd h (by simp)⟩, HL2⟩
      · go_wp2_with (first
          | (refine Hld.out _ _ _ _ _ rfl rfl rfl ?_)
          | (refine wpList_storeOp (x := x) rfl (.tmp 6) (.tmp 15) rfl rfl rfl rfl ?_
             intro W1 BX hBel
             have HB1 := hB.call hBel
             have HO1 : OwnB W1 w.heap.size v L := hO.same fun g hg => hBel.block g (hO.lt g hg).2
             have HL1 := HB.trans (hBel.mono hbs)
             clear hBel)
          | (refine wpList_load_row rfl 82 (.tmp 6) rfl wr.heap.size rfl 82 (opCells x).toArray (0, 0) _ BX Try.underlying82 rfl (by kernel_rfl) ?_)
          | (go_at_call 75; (with_reducible refine (HM.out _).mono ?_); rintro e w2 ⟨rfl, hb⟩; have HL2 := bl_trans HL1 hb; have HB2 := HB1.call hb; have HO2 : OwnB w2 w.heap.size v L := HO1.same fun g hg => hb.block g (HO1.lt g hg).2; have BX2 := Blk.call BX hb; obtain ⟨q0, f0⟩ := HB2.c1b; have y0 := BX2.at_ 0 (u := .int .i64 x.k) rfl; have hs2 := HL2.size; clear hb)
          | (at_builtin; refine wpList_appB rfl (.tmp 20) (.tmp 24) rfl w.heap.size v L rfl (World.ownsRow.alloc HO2 _) w2.heap.size 5 (x.k % 256) 1 rfl (Blk.new w2 _ _) (by omega) (by simp; omega) ?_
             intro v3 W3 O3 hg3
             obtain ⟨A3, n3, c3, rfl⟩ := O3.form
             have HB3 := (HB2.alloc _).grown hg3 (HO2.ne HB2 (by decide))
             have BX3 := (BX2.alloc _).grown hg3 (HO2.ne BX2 (by decide))
             have HL3 := ((HL2.alloc hs2 (.cells #[.int .u8 (x.k % 256)] 5)).grown hg3 (by simp; omega) (fun k hk => (HO2.lt k hk).1)).setCell (p := ⟨w.heap.size, 0, none⟩) (Nat.le_refl _) (.slice A3 n3 c3)
             obtain ⟨q3, f3⟩ := HB3.c1b
             have HW3 := Wr.stored (Nat.le_refl _) HB3 O3
             have BX4 := BX3.far (p := ⟨w.heap.size, 0, none⟩) (fun e => hne e.symm) (.slice A3 n3 c3)
             have hb4 := HL3.size
             have y1 := BX3.at_ 1 (u := .int .i64 x.t.k) rfl
             have y2 := BX3.at_ 2 (u := .bool x.t.n) rfl
             have y3 := BX3.at_ 3 (u := .int .u64 x.t.m) rfl
             have y4 := BX3.at_ 4 (u := .int .i64 x.t.e) rfl
             have hz3 : wr.heap.size < W3.heap.size := Blk.lt BX3
             clear hg3 q0 f0 y0)
          | (go_at_call 70; (with_reducible refine (HN.out (L ++ [x.k % 256]) _ HW3 hb4 (by rw [List.length_append, List.length_singleton]; omega)).mono ?_)
             rintro e w5 ⟨⟨v5, rfl⟩, HW5, HK5, HL5⟩
             have BX5 := HK5 _ _ _ (fun e => hne e.symm) (by decide) BX4
             have HL6 := HL3.trans HL5
             have hb5 := HL6.size
             have hz5 : wr.heap.size < w5.heap.size := Blk.lt BX5
             clear y1 y2 y3 y4 q3 f3 HN
             have y5 := BX5.at_ 5 (u := .bool x.a.emp) rfl; have y6 := BX5.at_ 6 (u := .int .i64 x.a.lo.k) rfl; have y7 := BX5.at_ 7 (u := .bool x.a.lo.n) rfl; have y8 := BX5.at_ 8 (u := .int .u64 x.a.lo.m) rfl; have y9 := BX5.at_ 9 (u := .int .i64 x.a.lo.e) rfl; have y10 := BX5.at_ 10 (u := .int .i64 x.a.hi.k) rfl; have y11 := BX5.at_ 11 (u := .bool x.a.hi.n) rfl; have y12 := BX5.at_ 12 (u := .int .u64 x.a.hi.m) rfl; have y13 := BX5.at_ 13 (u := .int .i64 x.a.hi.e) rfl; have y14 := BX5.at_ 14 (u := .bool x.b.emp) rfl; have y15 := BX5.at_ 15 (u := .int .i64 x.b.lo.k) rfl; have y16 := BX5.at_ 16 (u := .bool x.b.lo.n) rfl; have y17 := BX5.at_ 17 (u := .int .u64 x.b.lo.m) rfl; have y18 := BX5.at_ 18 (u := .int .i64 x.b.lo.e) rfl; have y19 := BX5.at_ 19 (u := .int .i64 x.b.hi.k) rfl; have y20 := BX5.at_ 20 (u := .bool x.b.hi.n) rfl; have y21 := BX5.at_ 21 (u := .int .u64 x.b.hi.m) rfl; have y22 := BX5.at_ 22 (u := .int .i64 x.b.hi.e) rfl; have y23 := BX5.at_ 23 (u := .bool x.c.emp) rfl; have y24 := BX5.at_ 24 (u := .int .i64 x.c.lo.k) rfl; have y25 := BX5.at_ 25 (u := .bool x.c.lo.n) rfl; have y26 := BX5.at_ 26 (u := .int .u64 x.c.lo.m) rfl; have y27 := BX5.at_ 27 (u := .int .i64 x.c.lo.e) rfl; have y28 := BX5.at_ 28 (u := .int .i64 x.c.hi.k) rfl; have y29 := BX5.at_ 29 (u := .bool x.c.hi.n) rfl; have y30 := BX5.at_ 30 (u := .int .u64 x.c.hi.m) rfl; have y31 := BX5.at_ 31 (u := .int .i64 x.c.hi.e) rfl)
          | (go_at_call 71; go_loud (refine (wiv_calls w.heap.size w.heap.size (L ++ [x.k % 256] ++ encN x.t) w5.heap.size 3 3 [x.a, x.b, x.c] rfl (by omega) _ _ (HW5.alloc _) (by simp; omega) (by rw [List.length_append, List.length_append, List.length_singleton]; omega) (Blk.new w5 _ _) (by omega) (ivs3 x.a x.b x.c)).mono ?_)
             rintro e w8 ⟨⟨v8, rfl⟩, HW8, HK8, HL8⟩
             have HL9 := (HL6.alloc hb5 (.cells #[.bool x.a.emp, .int .i64 x.a.lo.k, .bool x.a.lo.n, .int .u64 x.a.lo.m, .int .i64 x.a.lo.e, .int .i64 x.a.hi.k, .bool x.a.hi.n, .int .u64 x.a.hi.m, .int .i64 x.a.hi.e, .bool x.b.emp, .int .i64 x.b.lo.k, .bool x.b.lo.n, .int .u64 x.b.lo.m, .int .i64 x.b.lo.e, .int .i64 x.b.hi.k, .bool x.b.hi.n, .int .u64 x.b.hi.m, .int .i64 x.b.hi.e, .bool x.c.emp, .int .i64 x.c.lo.k, .bool x.c.lo.n, .int .u64 x.c.lo.m, .int .i64 x.c.lo.e, .int .i64 x.c.hi.k, .bool x.c.hi.n, .int .u64 x.c.hi.m, .int .i64 x.c.hi.e] 26)).trans HL8))
        go_roundw
        case rel => exact ⟨k + 1, by omega, by go_num, Hal.out, by rw [Hen.out]; unfold encOp; simp only [List.append_assoc] at HW8 ⊢; exact HW8, HL9⟩
        case measure => simp [intOf] <;> omega
    · have hkn : n = k := by omega
      subst hkn
      have et : xs.take n = xs := List.take_of_length_le (by have := hs.1; omega)
      rw [et] at HWr hall
      obtain ⟨_, v, hB, hO⟩ := HWr
      obtain ⟨A', c', rfl, S⟩ := OwnB.sl hO
      obtain ⟨q0, f0⟩ := hB.c1b
      have h1 : encAll xs = encOps xs := by unfold encAll; rw [if_pos hall]
      have h2 : encErr xs = 0 := by unfold encErr; rw [if_pos hall]
      have H1 := Lib.hid h1
      have H2 := Lib.hid h2
      clear h1 h2
      go_wp2
      go_ret2
      rw [H1.out, H2.out]
      exact ⟨A', c', rfl, S, HB⟩
end Go.Proofs.Ytakajahogjeiaab.Wk
