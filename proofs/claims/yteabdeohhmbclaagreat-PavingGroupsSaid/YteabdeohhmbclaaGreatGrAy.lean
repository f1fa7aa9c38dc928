/- Walk: paving.touch. -/
import Derived.Test.YteabdeohhmbclaaGreatBsAy
import Derived.Test.YteabdeohhmbclaaGreatIvYy
import Derived.Test.YteabdeohhmbclaaGreatAwAy
import Derived.Test.YteabdeohhmbclaaGreatPureAy
namespace Go.Proofs.YteabdeohhmbclaaGreat.Wk
open Go.RowKit Go.Proofs.Pl Go.Proofs.YteabdeohhmbclaaGreatW.PrintLast
set_option linter.unusedSimpArgs false
set_option linter.unusedVariables false

theorem Blk.range {w : World} {g : Nat} {t : TypeId} {cs : Array Value} (h : Blk w g t cs) (o : Nat) (vs : List Value) (hv : (cs.toList.drop o).take vs.length = vs) : w.rangeAt g o vs := fun j v hj => by
 have hlt : j < vs.length := (List.getElem?_eq_some_iff.1 hj).1
 have e := congrArg (fun l : List Value => l[j]?) hv
 simp only [List.getElem?_take_of_lt hlt, List.getElem?_drop] at e
 rw [h.cell (o + j), ← Array.getElem?_toList, e, hj]
theorem wpList_ldG {ops : Array Oper} {rest : List Oper} {op : Oper} {a : Act} {w : World} {Q : Exit → Act → World → Prop} (hw : Region.wanted op (yielded ops a.tmps) = true) (ty : TypeId) (x : Operand) (ho : op.op = .load ty x)
  (b o : Nat) (hx : a.eval x = .pointer (some ⟨b, o, none⟩)) (cs : List Value) (d : TypeDesc) (hc : w.rangeAt b o cs)
  (hu : Tryz.prog.underlying ty = some d) (hd : d.isRow = true) (hi : (Tryz.prog.info? ty).map (·.size) = some cs.length)
  (h : wpList Tryz.prog ops Q rest (a.put op.dst (.agg cs.toArray)) w) : wpList Tryz.prog ops Q (op :: rest) a w :=
 wpList_step fun _ hK => by rw [if_pos hw]; exact wp_load_mid ty x ho b o hx cs d hc hu hd hi (hK _ _ h)
def touchI (x y : Cl) : Bool := !(meetI [x.p.a, y.p.a]).emp && !(meetI [x.p.b, y.p.b]).emp
set_option maxRecDepth 100000 in
set_option maxHeartbeats 400000 in
theorem touch_calls (a0 : Bool) (a1 : Int) (a2 : Bool) (a3 a4 a5 : Int) (a6 : Bool) (a7 a8 : Int) (b0 : Bool) (b1 : Int) (b2 : Bool) (b3 b4 b5 : Int) (b6 : Bool) (b7 b8 : Int) (k : Int) (c0 : Bool) (c1 : Int) (c2 : Bool) (c3 c4 c5 : Int) (c6 : Bool) (c7 c8 : Int) (d0 : Bool) (d1 : Int) (d2 : Bool) (d3 d4 d5 : Int) (d6 : Bool) (d7 d8 : Int) (l : Int) (w : World) :
  Calls Tryz.prog 11 #[.agg #[.b a0, .i a1, .b a2, .u a3, .i a4, .i a5, .b a6, .u a7, .i a8, .b b0, .i b1, .b b2, .u b3, .i b4, .i b5, .b b6, .u b7, .i b8, .i k], .agg #[.b c0, .i c1, .b c2, .u c3, .i c4, .i c5, .b c6, .u c7, .i c8, .b d0, .i d1, .b d2, .u d3, .i d4, .i d5, .b d6, .u d7, .i d8, .i l]] w fun e w' => e = .returned (.b (touchI ⟨⟨⟨a0, ⟨a1, a2, a3, a4⟩, ⟨a5, a6, a7, a8⟩⟩, ⟨b0, ⟨b1, b2, b3, b4⟩, ⟨b5, b6, b7, b8⟩⟩⟩, k⟩ ⟨⟨⟨c0, ⟨c1, c2, c3, c4⟩, ⟨c5, c6, c7, c8⟩⟩, ⟨d0, ⟨d1, d2, d3, d4⟩, ⟨d5, d6, d7, d8⟩⟩⟩, l⟩)) ∧ Below w.heap.size w w' := by
 unfold touchI
 have HM := (fun A W h => meetI_calls A 2 2 [⟨a0, ⟨a1, a2, a3, a4⟩, ⟨a5, a6, a7, a8⟩⟩, ⟨c0, ⟨c1, c2, c3, c4⟩, ⟨c5, c6, c7, c8⟩⟩] W h (by omega))
 have HN := (fun A W h => meetI_calls A 2 2 [⟨b0, ⟨b1, b2, b3, b4⟩, ⟨b5, b6, b7, b8⟩⟩, ⟨d0, ⟨d1, d2, d3, d4⟩, ⟨d5, d6, d7, d8⟩⟩] W h (by omega))
 dsimp only at HM HN ⊢
 generalize meetI [⟨a0, ⟨a1, a2, a3, a4⟩, ⟨a5, a6, a7, a8⟩⟩, ⟨c0, ⟨c1, c2, c3, c4⟩, ⟨c5, c6, c7, c8⟩⟩] = r at HM ⊢
 generalize meetI [⟨b0, ⟨b1, b2, b3, b4⟩, ⟨b5, b6, b7, b8⟩⟩, ⟨d0, ⟨d1, d2, d3, d4⟩, ⟨d5, d6, d7, d8⟩⟩] = q at HN ⊢
 obtain ⟨r0, ⟨r1, r2, r3, r4⟩, ⟨r5, r6, r7, r8⟩⟩ := r
 obtain ⟨q0, ⟨q1, q2, q3, q4⟩, ⟨q5, q6, q7, q8⟩⟩ := q
 dsimp only at HM HN ⊢
 replace HM := Lib.hid HM
 replace HN := Lib.hid HN
 have BA : Blk _ w.heap.size 43 #[.b a0, .i a1, .b a2, .u a3, .i a4, .i a5, .b a6, .u a7, .i a8, .b b0, .i b1, .b b2, .u b3, .i b4, .i b5, .b b6, .u b7, .i b8, .i k] := (Blk.new w _ _).alloc (.cells #[.b c0, .i c1, .b c2, .u c3, .i c4, .i c5, .b c6, .u c7, .i c8, .b d0, .i d1, .b d2, .u d3, .i d4, .i d5, .b d6, .u d7, .i d8, .i l] 43)
 have BC : Blk _ (w.heap.size + 1) 43 #[.b c0, .i c1, .b c2, .u c3, .i c4, .i c5, .b c6, .u c7, .i c8, .b d0, .i d1, .b d2, .u d3, .i d4, .i d5, .b d6, .u d7, .i d8, .i l] := Blk.new1 w (.cells #[.b a0, .i a1, .b a2, .u a3, .i a4, .i a5, .b a6, .u a7, .i a8, .b b0, .i b1, .b b2, .u b3, .i b4, .i b5, .b b6, .u b7, .i b8, .i k] 43) _ _
 have HBd := bl_alloc (bl_alloc (Below.refl w.heap.size w) (.cells #[.b a0, .i a1, .b a2, .u a3, .i a4, .i a5, .b a6, .u a7, .i a8, .b b0, .i b1, .b b2, .u b3, .i b4, .i b5, .b b6, .u b7, .i b8, .i k] 43)) (.cells #[.b c0, .i c1, .b c2, .u c3, .i c4, .i c5, .b c6, .u c7, .i c8, .b d0, .i d1, .b d2, .u d3, .i d4, .i d5, .b d6, .u d7, .i d8, .i l] 43)
 have R1 := BA.range 0 [.b a0, .i a1, .b a2, .u a3, .i a4, .i a5, .b a6, .u a7, .i a8] rfl
 have R2 := BC.range 0 [.b c0, .i c1, .b c2, .u c3, .i c4, .i c5, .b c6, .u c7, .i c8] rfl
 have F1 : ∀ w, (Instr.field 34 (.agg #[.b r0, .i r1, .b r2, .u r3, .i r4, .i r5, .b r6, .u r7, .i r8]) 0).run Tryz.prog w = .ok (.b r0) w := fun _ => by kernel_rfl
 have F2 : ∀ w, (Instr.field 34 (.agg #[.b q0, .i q1, .b q2, .u q3, .i q4, .i q5, .b q6, .u q7, .i q8]) 0).run Tryz.prog w = .ok (.b q0) w := fun _ => by kernel_rfl
 cases r0
 ·go_enter Tryz.func11, Tryz.ntmps11
  go_wp2_with (first
   | (with_reducible refine wpList_ldG ?_ 34 (.tmp 6) ?_ w.heap.size 0 ?_ [.b a0, .i a1, .b a2, .u a3, .i a4, .i a5, .b a6, .u a7, .i a8] _ R1 Tryz.underlying34 ?_ ?_ ?_; exact rfl; exact rfl; exact rfl; exact rfl; kernel_rfl)
   | (with_reducible refine wpList_ldG ?_ 34 (.tmp 9) ?_ (w.heap.size + 1) 0 ?_ [.b c0, .i c1, .b c2, .u c3, .i c4, .i c5, .b c6, .u c7, .i c8] _ R2 Tryz.underlying34 ?_ ?_ ?_; exact rfl; exact rfl; exact rfl; exact rfl; kernel_rfl)
   | (refine wpList_ldG (by rfl) 34 (.tmp 17) rfl w.heap.size 9 rfl [.b b0, .i b1, .b b2, .u b3, .i b4, .i b5, .b b6, .u b7, .i b8] _ R3 Tryz.underlying34 rfl (by kernel_rfl) ?_)
   | (refine wpList_ldG (by rfl) 34 (.tmp 20) rfl (w.heap.size + 1) 9 rfl [.b d0, .i d1, .b d2, .u d3, .i d4, .i d5, .b d6, .u d7, .i d8] _ R4 Tryz.underlying34 rfl (by kernel_rfl) ?_)
   | (go_at_call 22; first
    | ((with_reducible refine (HM.out _ _ (SlI.lit2 (x := ⟨a0, ⟨a1, a2, a3, a4⟩, ⟨a5, a6, a7, a8⟩⟩) (y := ⟨c0, ⟨c1, c2, c3, c4⟩, ⟨c5, c6, c7, c8⟩⟩) (Blk.new2 w _ _ _ _) (by simp))).mono ?_); rintro e w1 ⟨rfl, hb⟩; have C1 := ((BC.alloc (.cells #[.b a0, .i a1, .b a2, .u a3, .i a4, .i a5, .b a6, .u a7, .i a8, .b c0, .i c1, .b c2, .u c3, .i c4, .i c5, .b c6, .u c7, .i c8] 34)).call hb); have A1 := ((BA.alloc (.cells #[.b a0, .i a1, .b a2, .u a3, .i a4, .i a5, .b a6, .u a7, .i a8, .b c0, .i c1, .b c2, .u c3, .i c4, .i c5, .b c6, .u c7, .i c8] 34)).call hb); have R3 := A1.range 9 [.b b0, .i b1, .b b2, .u b3, .i b4, .i b5, .b b6, .u b7, .i b8] rfl; have R4 := C1.range 9 [.b d0, .i d1, .b d2, .u d3, .i d4, .i d5, .b d6, .u d7, .i d8] rfl; have HB1 := bl_trans (bl_alloc HBd (.cells #[.b a0, .i a1, .b a2, .u a3, .i a4, .i a5, .b a6, .u a7, .i a8, .b c0, .i c1, .b c2, .u c3, .i c4, .i c5, .b c6, .u c7, .i c8] 34)) hb; have ga := A1.lt; have gc := C1.lt; clear hb A1 C1 HM R1 R2 BA BC HBd)
    | ((with_reducible refine (HN.out _ _ (SlI.lit2 (x := ⟨b0, ⟨b1, b2, b3, b4⟩, ⟨b5, b6, b7, b8⟩⟩) (y := ⟨d0, ⟨d1, d2, d3, d4⟩, ⟨d5, d6, d7, d8⟩⟩) (Blk.new w1 _ _) (by simp))).mono ?_); rintro e w2 ⟨rfl, hb⟩; have HB2 := bl_trans (bl_alloc HB1 (.cells #[.b b0, .i b1, .b b2, .u b3, .i b4, .i b5, .b b6, .u b7, .i b8, .b d0, .i d1, .b d2, .u d3, .i d4, .i d5, .b d6, .u d7, .i d8] 34)) hb; clear hb)))
  go_ret
  exact ⟨by first | rfl | simp, HB2⟩
 ·go_enter Tryz.func11, Tryz.ntmps11
  go_wp2_with (first
   | (with_reducible refine wpList_ldG ?_ 34 (.tmp 6) ?_ w.heap.size 0 ?_ [.b a0, .i a1, .b a2, .u a3, .i a4, .i a5, .b a6, .u a7, .i a8] _ R1 Tryz.underlying34 ?_ ?_ ?_; exact rfl; exact rfl; exact rfl; exact rfl; kernel_rfl)
   | (with_reducible refine wpList_ldG ?_ 34 (.tmp 9) ?_ (w.heap.size + 1) 0 ?_ [.b c0, .i c1, .b c2, .u c3, .i c4, .i c5, .b c6, .u c7, .i c8] _ R2 Tryz.underlying34 ?_ ?_ ?_; exact rfl; exact rfl; exact rfl; exact rfl; kernel_rfl)
   | (go_at_call 22; (with_reducible refine (HM.out _ _ (SlI.lit2 (x := ⟨a0, ⟨a1, a2, a3, a4⟩, ⟨a5, a6, a7, a8⟩⟩) (y := ⟨c0, ⟨c1, c2, c3, c4⟩, ⟨c5, c6, c7, c8⟩⟩) (Blk.new2 w _ _ _ _) (by simp))).mono ?_); rintro e w1 ⟨rfl, hb⟩; have HB1 := bl_trans (bl_alloc HBd (.cells #[.b a0, .i a1, .b a2, .u a3, .i a4, .i a5, .b a6, .u a7, .i a8, .b c0, .i c1, .b c2, .u c3, .i c4, .i c5, .b c6, .u c7, .i c8] 34)) hb; clear hb HM R1 R2 BA BC HBd))
  go_ret
  exact ⟨by first | rfl | simp, HB1⟩
end Go.Proofs.YteabdeohhmbclaaGreat.Wk
