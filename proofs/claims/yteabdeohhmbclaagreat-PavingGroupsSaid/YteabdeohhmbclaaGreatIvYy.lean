/- Walk: iv.ends, for every slice of intervals (up to 2^41 of them). -/
import Derived.Test.YteabdeohhmbclaaGreatIvXy
import Derived.Test.YteabdeohhmbclaaGreatBsAy
import Derived.Deep.AppendLies
import Derived.Deep.RegionLaw
import Derived.Test.YteabdeohhmbclaaGreatNumCy
namespace Go.Proofs.YteabdeohhmbclaaGreat.Wk
open Go.RowKit Go.Proofs.Pl Go.Proofs.YteabdeohhmbclaaGreatW.PrintLast
set_option linter.unusedSimpArgs false
set_option linter.unusedVariables false

theorem infoNum : (Tryz.prog.info? 32).map (fun i => (i.zero, i.size, i.bytes)) = some (some (.agg #[.i 0, .b false, .u 0, .i 0]), 4, 32) := by kernel_rfl

def flatN (xs : List Num) : List Value := xs.flatMap fun x => [.i x.k, .b x.n, .u x.m, .i x.e]
theorem flatN_snoc (xs : List Num) (x : Num) : flatN (xs ++ [x]) = flatN xs ++ [.i x.k, .b x.n, .u x.m, .i x.e] := by simp [flatN]
theorem flatN_at (xs : List Num) (i : Nat) (x : Num) (h : xs[i]? = some x) : (flatN xs)[i * 4]? = some (.i x.k) ∧ (flatN xs)[i * 4 + 1]? = some (.b x.n) ∧ (flatN xs)[i * 4 + 2]? = some (.u x.m) ∧ (flatN xs)[i * 4 + 3]? = some (.i x.e) := by
  induction xs generalizing i with
  | nil => simp at h
  | cons a l ih =>
    cases i with
    | zero =>
      simp only [List.getElem?_cons_zero, Option.some.injEq] at h
      subst h
      simp [flatN]
    | succ i =>
      have h1 := ih i (by simpa using h)
      have e : ∀ j, (flatN (a :: l))[(i + 1) * 4 + j]? = (flatN l)[i * 4 + j]? := fun j => by
        show ([_, _, _, _] ++ flatN l)[(i + 1) * 4 + j]? = _
        rw [List.getElem?_append_right (by simp; omega)]
        congr 1
        simp; omega
      refine ⟨(e 0).trans h1.1, (e 1).trans h1.2.1, (e 2).trans h1.2.2.1, (e 3).trans h1.2.2.2⟩
def OwnN (w : World) (base : Nat) (v : Value) (xs : List Num) : Prop := w.ownsRow base 32 4 v xs.length (flatN xs)
theorem OwnN.sl {w : World} {base : Nat} {v : Value} {xs : List Num} (h : OwnN w base v xs) : ∃ A c, v = .slice A xs.length c ∧ SlN w w.heap.size A xs.length xs := by
  rcases h.2 with ⟨rfl, hn⟩ | ⟨g, cap, cur, rfl, hb, hg, hnc, hcm, hcs, htake⟩
  · exact ⟨none, 0, by rw [hn], rfl, fun h0 => absurd hn (by omega)⟩
  · refine ⟨_, cap, rfl, rfl, fun _ => ⟨g, 0, rfl, ?_, fun i x hx => ?_⟩⟩
    · rcases Nat.lt_or_ge g w.heap.size with hlt | hge
      · exact hlt
      · rw [Array.getElem?_eq_none hge] at hg; cases hg
    · have hi : i < xs.length := (List.getElem?_eq_some_iff.1 hx).1
      obtain ⟨c0, c1, c2, c3⟩ := flatN_at xs i x hx
      have hc : ∀ j, j < 4 → w.cell? ⟨g, i * 4 + j, none⟩ = (flatN xs)[i * 4 + j]? := fun j hj => World.ownsRow.cellAt h (i * 4 + j) (by omega)
      simp only [Nat.zero_add]
      exact ⟨(hc 0 (by omega)).trans c0, (hc 1 (by omega)).trans c1, (hc 2 (by omega)).trans c2, (hc 3 (by omega)).trans c3⟩

def EndsPost (xs : List Iv) (w : World) (e : Ending) (w' : World) : Prop :=
  ∃ A1 c1 A2 c2, e = .returned (.tuple #[.slice A1 (fulls xs).length c1, .slice A2 (fulls xs).length c2, .b (endsAll xs)]) ∧
    SlN w' w'.heap.size A1 (fulls xs).length ((fulls xs).map (·.lo)) ∧ SlN w' w'.heap.size A2 (fulls xs).length ((fulls xs).map (·.hi)) ∧ Below w.heap.size w w'

theorem endsAll_snoc (l : List Iv) (x : Iv) : endsAll (l ++ [x]) = (endsAll l && !(fairI x).emp) := by simp [endsAll]
theorem fulls_snoc (l : List Iv) (x : Iv) : fulls (l ++ [x]) = fulls l ++ (if (fairI x).emp = true then [] else [fairI x]) := by
  simp only [fulls, List.map_append, List.filter_append, List.map_cons, List.map_nil]
  congr 1
  cases h : (fairI x).emp <;> simp [h]

theorem OwnN.drew {w : World} {base : Nat} {v : Value} {xs : List Num} (h : OwnN w base v xs) : OwnN w.drew base v xs := World.ownsRow.drew h
theorem OwnN.alloc {w : World} {base : Nat} {v : Value} {xs : List Num} (h : OwnN w base v xs) (o : Obj) : OwnN (w.alloc o) base v xs := World.ownsRow.alloc h o
theorem OwnN.lt {w : World} {base : Nat} {v : Value} {xs : List Num} (h : OwnN w base v xs) : ∀ k, v.ownBlock = some k → base ≤ k ∧ k < w.heap.size := World.ownsRow.lt h
theorem OwnN.same {w w' : World} {base : Nat} {v : Value} {xs : List Num} (h : OwnN w base v xs) (hk : ∀ g, g < w.heap.size → w'.heap[g]? = w.heap[g]?) : OwnN w' base v xs := by
  refine ⟨h.1, ?_⟩
  have hlt := h.lt
  rcases h.2 with hn | ⟨g, cap, cur, rfl, hb, hgg, rest⟩
  · exact .inl hn
  · exact .inr ⟨g, cap, cur, rfl, hb, (hk g (hlt g rfl).2).trans hgg, rest⟩
theorem OwnN.call {w w' : World} {base : Nat} {v : Value} {xs : List Num} (h : OwnN w base v xs) (hb : Below w.heap.size w w') : OwnN w' base v xs := h.same fun g hg => hb.block g hg
theorem OwnN.snoc {w : World} {base : Nat} {v : Value} {L : List Num} {x0 : Int} {x1 : Bool} {x2 x3 : Int} (h : w.ownsRow base 32 4 v (L.length + 1) (flatN L ++ [.i x0, .b x1, .u x2, .i x3])) : OwnN w base v (L ++ [⟨x0, x1, x2, x3⟩]) := by
  unfold OwnN
  rw [flatN_snoc, List.length_append]
  exact h
theorem put9_heap {w W : World} {g : Nat} {y0 y1 y2 y3 y4 y5 y6 y7 y8 : Value} (h : (((((((((w.setCell ⟨g, 0, none⟩ y0).setCell ⟨g, 1, none⟩ y1).setCell ⟨g, 2, none⟩ y2).setCell ⟨g, 3, none⟩ y3).setCell ⟨g, 4, none⟩ y4).setCell ⟨g, 5, none⟩ y5).setCell ⟨g, 6, none⟩ y6).setCell ⟨g, 7, none⟩ y7).setCell ⟨g, 8, none⟩ y8) = W) : ∀ g', g' ≠ g → W.heap[g']? = w.heap[g']? := by
  subst h
  intro g' hn
  exact ((Below.heap_setCell ((((((((w.setCell ⟨g, 0, none⟩ y0).setCell ⟨g, 1, none⟩ y1).setCell ⟨g, 2, none⟩ y2).setCell ⟨g, 3, none⟩ y3).setCell ⟨g, 4, none⟩ y4).setCell ⟨g, 5, none⟩ y5).setCell ⟨g, 6, none⟩ y6).setCell ⟨g, 7, none⟩ y7) ⟨g, 8, none⟩ y8 g' hn).trans ((Below.heap_setCell (((((((w.setCell ⟨g, 0, none⟩ y0).setCell ⟨g, 1, none⟩ y1).setCell ⟨g, 2, none⟩ y2).setCell ⟨g, 3, none⟩ y3).setCell ⟨g, 4, none⟩ y4).setCell ⟨g, 5, none⟩ y5).setCell ⟨g, 6, none⟩ y6) ⟨g, 7, none⟩ y7 g' hn).trans ((Below.heap_setCell ((((((w.setCell ⟨g, 0, none⟩ y0).setCell ⟨g, 1, none⟩ y1).setCell ⟨g, 2, none⟩ y2).setCell ⟨g, 3, none⟩ y3).setCell ⟨g, 4, none⟩ y4).setCell ⟨g, 5, none⟩ y5) ⟨g, 6, none⟩ y6 g' hn).trans ((Below.heap_setCell (((((w.setCell ⟨g, 0, none⟩ y0).setCell ⟨g, 1, none⟩ y1).setCell ⟨g, 2, none⟩ y2).setCell ⟨g, 3, none⟩ y3).setCell ⟨g, 4, none⟩ y4) ⟨g, 5, none⟩ y5 g' hn).trans ((Below.heap_setCell ((((w.setCell ⟨g, 0, none⟩ y0).setCell ⟨g, 1, none⟩ y1).setCell ⟨g, 2, none⟩ y2).setCell ⟨g, 3, none⟩ y3) ⟨g, 4, none⟩ y4 g' hn).trans ((Below.heap_setCell (((w.setCell ⟨g, 0, none⟩ y0).setCell ⟨g, 1, none⟩ y1).setCell ⟨g, 2, none⟩ y2) ⟨g, 3, none⟩ y3 g' hn).trans ((Below.heap_setCell ((w.setCell ⟨g, 0, none⟩ y0).setCell ⟨g, 1, none⟩ y1) ⟨g, 2, none⟩ y2 g' hn).trans ((Below.heap_setCell (w.setCell ⟨g, 0, none⟩ y0) ⟨g, 1, none⟩ y1 g' hn).trans (Below.heap_setCell w ⟨g, 0, none⟩ y0 g' hn)))))))))
theorem OwnN.put {w W : World} {base g : Nat} {v : Value} {xs : List Num} (h : OwnN w base v xs) (hW : ∀ g', g' ≠ g → W.heap[g']? = w.heap[g']?) (hg : ∀ k, v.ownBlock = some k → k ≠ g) : OwnN W base v xs := by
  refine ⟨h.1, ?_⟩
  rcases h.2 with hn | ⟨g', cap, cur, rfl, hb, hgg, rest⟩
  · exact .inl hn
  · exact .inr ⟨g', cap, cur, rfl, hb, (hW g' (hg g' rfl)).trans hgg, rest⟩

set_option maxRecDepth 100000 in
set_option maxHeartbeats 4000000 in
theorem ends_calls (A : Option Addr) (n c : Nat) (xs : List Iv) (w : World) (hs : SlI w w.heap.size A n xs) (hn : n ≤ 2199023255552) :
    Calls Tryz.prog 34 #[.slice A n c] w (EndsPost xs w) := by
  obtain ⟨i0, hi, hz0, hz1, hz2⟩ := info_parts infoNum
  go_enter Tryz.func34, Tryz.ntmps34
  go_wp2
  go_loopw [2, 3, 4, 9] (fun v1 v2 al i wr => ∃ k : Nat, k ≤ n ∧ i = .i k ∧ al = .b (endsAll (xs.take k)) ∧ (fulls (xs.take k)).length ≤ k ∧ OwnN wr w.heap.size v1 ((fulls (xs.take k)).map (·.lo)) ∧ OwnN wr w.heap.size v2 ((fulls (xs.take k)).map (·.hi)) ∧
      (v1.ownBlock = none ∨ v1.ownBlock ≠ v2.ownBlock) ∧ Below w.heap.size w wr) (fun _ _ _ i _ => n - (intOf i).toNat)
  case atStart => exact ⟨0, Nat.zero_le _, rfl, rfl, Nat.le_refl _, World.ownsRow_nil _ _ _ _, World.ownsRow_nil _ _ _ _, .inl rfl, Below.refl _ _⟩
  case round =>
    obtain ⟨k, hk, rfl, rfl, hlen, O1, O2, hne, HB⟩ := hrel
    have Hne := Lib.hid hne
    clear hne
    by_cases hlt : k < n
    · obtain ⟨b, off, x, rfl, hbB, hx, e0, e1, e2, e3, e4, e5, e6, e7, e8⟩ := (hs.below HB).at_ hlt
      have hbW : b < wr.heap.size := Nat.lt_of_lt_of_le hbB HB.size
      have htk : xs.take (k + 1) = xs.take k ++ [x] := by rw [List.take_add_one, hx]; rfl
      have Hal := Lib.hid (endsAll_snoc (xs.take k) x)
      have Hfu := Lib.hid (fulls_snoc (xs.take k) x)
      rw [← htk] at Hal Hfu
      clear hx htk
      obtain ⟨x0, ⟨x1, x2, x3, x4⟩, ⟨x5, x6, x7, x8⟩⟩ := x
      have HF := Lib.hid (fun W => fairI_calls x0 x1 x2 x3 x4 x5 x6 x7 x8 W)
      generalize fairI ⟨x0, ⟨x1, x2, x3, x4⟩, ⟨x5, x6, x7, x8⟩⟩ = f at HF Hal Hfu
      obtain ⟨f0, ⟨f1, f2, f3, f4⟩, ⟨f5, f6, f7, f8⟩⟩ := f
      dsimp only at HF
      cases f0
      · go_wp2_with (go_at_call 29; refine (HF.out _).mono ?_; rintro e w2 ⟨rfl, hb⟩; have BX2 := (Blk.new wr _ _).call hb; have HB2 := bl_trans (bl_alloc HB _) hb; obtain ⟨W3, hW3, BX3, hK, hL, hzz⟩ := put9 BX2 (.b false) (.i f1) (.b f2) (.u f3) (.i f4) (.i f5) (.b f6) (.u f7) (.i f8); have HB3 := hL w HB2 HB.size; have hP := put9_heap hW3; have P1 := ((O1.alloc _).call hb).put hP (fun k hk => Nat.ne_of_lt (O1.lt k hk).2); have P2 := ((O2.alloc _).call hb).put hP (fun k hk => Nat.ne_of_lt (O2.lt k hk).2); clear hP; obtain ⟨⟨q0, q1, q2, q3, q4, q5, q6, q7, q8⟩, ⟨g0, g1, g2, g3, g4, g5, g6, g7, g8⟩⟩ := BX2.c9; obtain ⟨⟨p0, p1, p2, p3, p4, p5, p6, p7, p8⟩, ⟨h0, h1, h2, h3, h4, h5, h6, h7, h8⟩⟩ := BX3.c9; have hsz : wr.heap.size < W3.heap.size := BX3.lt; clear hb BX2 HB2 hK hL hzz)
        clear q0 q1 q2 q3 q4 q5 q6 q7 q8 g0 g1 g2 g3 g4 g5 g6 g7 g8 hW3
        have ea : endsAll (xs.take (k + 1)) = endsAll (xs.take k) := by rw [Hal.out]; simp
        have ef : fulls (xs.take (k + 1)) = fulls (xs.take k) ++ [⟨false, ⟨f1, f2, f3, f4⟩, ⟨f5, f6, f7, f8⟩⟩] := by rw [Hfu.out]; simp
        have Ea := Lib.hid ea
        have Ef := Lib.hid ef
        clear ea ef
        have hl1 : ((fulls (xs.take k)).map (·.lo)).length ≤ k := by simpa using hlen
        have hl2 : ((fulls (xs.take k)).map (·.hi)).length ≤ k := by simpa using hlen
        have G1 := Lib.hid O1.lt
        have G2 := Lib.hid O2.lt
        have Hl1 : Hid ((fulls (xs.take k)).map (·.lo) = (fulls (xs.take k)).map (·.lo)) := rfl
        generalize hL1 : (fulls (xs.take k)).map (·.lo) = L1 at P1 hl1
        generalize hL2 : (fulls (xs.take k)).map (·.hi) = L2 at P2 hl2
        have HL1 := Lib.hid hL1
        have HL2 := Lib.hid hL2
        clear hL1 hL2 O1 O2 Hl1
        have hB3 : w.heap.size ≤ W3.heap.size := HB3.size
        have hbx : some wr.heap.size ≠ u2.ownBlock := fun h => by have := (G1.out _ h.symm).2; omega
        have Hbx := Lib.hid hbx
        clear hbx
        have Hq1 : Hid (some (W3.heap.size + 1) ≠ u2.ownBlock) := fun h => by have := (G1.out _ h.symm).2; omega
        have Hq0 : Hid (some W3.heap.size ≠ u2.ownBlock) := fun h => by have := (G1.out _ h.symm).2; omega
        have hne' : Hid (u3.ownBlock = none ∨ u3.ownBlock ≠ u2.ownBlock) := by
          rcases Hne.out with h | h
          · cases hu : u3.ownBlock with
            | none => exact .inl rfl
            | some g => rw [h]; exact .inr (by simp)
          · exact .inr (Ne.symm h)
        go_region_law (first
          | (refine step_append_lies _ (by rfl) (.tmp 17) (.tmp 20) _ (by rfl) w.heap.size 32 i0 _ 4 32 Tryz.underlying78 hi hz0 hz1 hz2 rfl (by omega) u2 L1.length (flatN L1) (by rfl)
              (by first | exact P1.drew.alloc _ | exact (P1.drew.alloc _).alloc _) ⟨_, 0, none⟩ 1 1 [.i f1, .b f2, .u f3, .i f4] (by rfl) (by rfl)
              (World.news_of_block (t := 32) (cs := #[.i f1, .b f2, .u f3, .i f4]) (fr := (0, 0)) (by first | exact Blk.new _ _ _ | exact Blk.new1 _ _ _ _ | exact (Blk.new _ _ _).alloc _)) (by simp [Value.oneCell'])
              (by omega) (by simp only [maxLen]; omega) (by omega) (by simp; omega) _ rfl ?_
             intro g1 cap1 w4 hown1 hgrow1 hat1 hlt1
             have BX4 : Blk w4 wr.heap.size 34 #[.b false, .i f1, .b f2, .u f3, .i f4, .i f5, .b f6, .u f7, .i f8] := (by first | exact (BX3.drew.alloc _).grown hgrow1 Hbx.out | exact ((BX3.drew.alloc _).alloc _).grown hgrow1 Hbx.out)
             obtain ⟨⟨s0, s1, s2, s3, s4, s5, s6, s7, s8⟩, _⟩ := BX4.c9
             have P3 : OwnN w4 w.heap.size u3 L2 := (by first | exact World.ownsRow.kept (P2.drew.alloc _) hgrow1 hne'.out | exact World.ownsRow.kept ((P2.drew.alloc _).alloc _) hgrow1 hne'.out)
             have HB4 : Below w.heap.size w w4 := (by first | exact (bl_alloc (bl_drew HB3) _).grown hgrow1 (bl_alloc (bl_drew HB3) _).size (fun k hk => (G1.out k hk).1) | exact (bl_alloc (bl_alloc (bl_drew HB3) _) _).grown hgrow1 (bl_alloc (bl_alloc (bl_drew HB3) _) _).size (fun k hk => (G1.out k hk).1))
             have H1 := Lib.hid (show u2.ownBlock = some g1 ∨ W3.heap.size ≤ g1 from hat1.imp id (fun h => by rw [h]; simp <;> omega))
             first
               | have Q2 : Blk w4 (W3.heap.size + 1) 32 #[.i f5, .b f6, .u f7, .i f8] := (Blk.new1 W3.drew _ _ _).grown hgrow1 Hq1.out
               | have Q2 : Blk w4 W3.heap.size 32 #[.i f5, .b f6, .u f7, .i f8] := ((Blk.new W3.drew _ _).alloc _).grown hgrow1 Hq0.out
               | skip
             clear hat1)
          | (refine step_append_lies _ (by rfl) (.tmp 22) (.tmp 25) _ (by rfl) w.heap.size 32 i0 _ 4 32 Tryz.underlying78 hi hz0 hz1 hz2 rfl (by omega) u3 L2.length (flatN L2) (by rfl)
              (by first | exact P3 | exact P3.alloc _) ⟨_, 0, none⟩ 1 1 [.i f5, .b f6, .u f7, .i f8] (by rfl) (by rfl)
              (World.news_of_block (t := 32) (cs := #[.i f5, .b f6, .u f7, .i f8]) (fr := (0, 0)) (by first | exact Blk.new _ _ _ | exact Q2 | exact Q2.alloc _)) (by simp [Value.oneCell'])
              (by omega) (by simp only [maxLen]; omega) (by omega) (by have := HB4.size; simp; omega) _ rfl ?_
             intro g2 cap2 w5 hown2 hgrow2 hat2 hlt2))
        all_goals
          have hg1 : some g1 ≠ u3.ownBlock := by
            rcases H1.out with h | h
            · rcases Hne.out with h2 | h2
              · rw [h2] at h; cases h
              · rw [← h]; exact h2
            · intro h2
              have := (G2.out _ h2.symm).2
              omega
          have F1 : OwnN w5 w.heap.size (.slice (some ⟨g1, 0, none⟩) (L1.length + 1) cap1) (L1 ++ [⟨f1, f2, f3, f4⟩]) := OwnN.snoc (by first | exact World.ownsRow.kept hown1 hgrow2 (.inr hg1) | exact World.ownsRow.kept (hown1.alloc _) hgrow2 (.inr hg1))
          have F2 : OwnN w5 w.heap.size (.slice (some ⟨g2, 0, none⟩) (L2.length + 1) cap2) (L2 ++ [⟨f5, f6, f7, f8⟩]) := OwnN.snoc hown2
          have F3 : g1 ≠ g2 := by
            rcases hat2 with h | h
            · rintro rfl
              exact hg1 h.symm
            · have h3 : g2 = w4.heap.size ∨ g2 = w4.heap.size + 1 := by simpa using (show g2 = w4.heap.size ∨ g2 = w4.heap.size + 1 from by first | exact .inl h | (exact .inr (by rw [h]; simp)))
              omega
          have HB5 : Below w.heap.size w w5 := by first | exact HB4.grown hgrow2 HB4.size (fun k hk => (G2.out k hk).1) | exact (bl_alloc HB4 _).grown hgrow2 (bl_alloc HB4 _).size (fun k hk => (G2.out k hk).1)
          have HF3 := Lib.hid F3
          clear hown1 hown2 hgrow1 hgrow2 hat2 hg1 F3
          go_wp2
          go_roundw
          case rel => exact ⟨k + 1, by omega, by go_num, by rw [Ea.out], by rw [Ef.out]; simp only [List.length_append, List.length_cons, List.length_nil]; omega, by rw [Ef.out, List.map_append, HL1.out]; exact F1, by rw [Ef.out, List.map_append, HL2.out]; exact F2, .inr (fun h => HF3.out (by injection h)), HB5⟩
          case measure => simp [intOf]; omega
      · go_wp2_with (go_at_call 29; refine (HF.out _).mono ?_; rintro e w2 ⟨rfl, hb⟩; have BX2 := (Blk.new wr _ _).call hb; have HB2 := bl_trans (bl_alloc HB _) hb; obtain ⟨W3, hW3, BX3, hK, hL, hzz⟩ := put9 BX2 (.b true) (.i f1) (.b f2) (.u f3) (.i f4) (.i f5) (.b f6) (.u f7) (.i f8); have HB3 := hL w HB2 HB.size; have hP := put9_heap hW3; have P1 := ((O1.alloc _).call hb).put hP (fun k hk => Nat.ne_of_lt (O1.lt k hk).2); have P2 := ((O2.alloc _).call hb).put hP (fun k hk => Nat.ne_of_lt (O2.lt k hk).2); clear hP; obtain ⟨⟨q0, q1, q2, q3, q4, q5, q6, q7, q8⟩, ⟨g0, g1, g2, g3, g4, g5, g6, g7, g8⟩⟩ := BX2.c9; obtain ⟨⟨p0, p1, p2, p3, p4, p5, p6, p7, p8⟩, ⟨h0, h1, h2, h3, h4, h5, h6, h7, h8⟩⟩ := BX3.c9; clear hb BX2 BX3 HB2 hK hL hzz)
        go_roundw
        case rel =>
          have ea : endsAll (xs.take (k + 1)) = false := by rw [Hal.out]; simp
          have ef : fulls (xs.take (k + 1)) = fulls (xs.take k) := by rw [Hfu.out]; simp
          exact ⟨k + 1, by omega, by go_num, by rw [ea], by rw [ef]; omega, by rw [ef]; exact P1, by rw [ef]; exact P2, Hne.out, HB3⟩
        case measure => simp [intOf]; omega
    · have hkn : k = n := by omega
      subst hkn
      have et : xs.take k = xs := List.take_of_length_le (by have := hs.1; omega)
      rw [et] at O1 O2
      have Et := Lib.hid et
      clear et
      go_wp2
      go_ret3
      rw [Et.out]
      obtain ⟨A1, c1, rfl, S1⟩ := OwnN.sl O1
      obtain ⟨A2, c2, rfl, S2⟩ := OwnN.sl O2
      rw [List.length_map] at S1 S2
      exact ⟨A1, c1, A2, c2, by simp only [List.length_map]; rfl, S1, S2, HB⟩
end Go.Proofs.YteabdeohhmbclaaGreat.Wk
namespace Go.Proofs.YteabdeohhmbclaaGreat.Wk
open Go.RowKit Go.Proofs.Pl Go.Proofs.YteabdeohhmbclaaGreatW.PrintLast
set_option linter.unusedSimpArgs false
set_option linter.unusedVariables false

theorem fulls_length (xs : List Iv) : (fulls xs).length ≤ xs.length := by
 unfold fulls
 exact Nat.le_trans (List.length_filter_le _ _) (by simp)

set_option maxRecDepth 100000 in
set_option maxHeartbeats 4000000 in
theorem meetI_calls (A : Option Addr) (n c : Nat) (xs : List Iv) (w : World) (hs : SlI w w.heap.size A n xs) (hn : n ≤ 2199023255552) :
  Calls Tryz.prog 22 #[.slice A n c] w fun e w' => e = .returned (.agg #[.b (meetI xs).emp, .i ((meetI xs).lo).k, .b ((meetI xs).lo).n, .u ((meetI xs).lo).m, .i ((meetI xs).lo).e, .i ((meetI xs).hi).k, .b ((meetI xs).hi).n, .u ((meetI xs).hi).m, .i ((meetI xs).hi).e]) ∧ Below w.heap.size w w' := by
 have hfl := fulls_length xs
 rw [hs.1] at hfl
 have hm : (fulls xs).length ≤ 4611686018427387904 := by omega
 have HE := Lib.hid (fun W h => ends_calls A n c xs W h hn)
 have HP := Lib.hid (fun A1 c1 W h => mostN_calls A1 (fulls xs).length c1 ((fulls xs).map (·.lo)) W h hm)
 have HQ := Lib.hid (fun A1 c1 W h => leastN_calls A1 (fulls xs).length c1 ((fulls xs).map (·.hi)) W h hm)
 have HS := Lib.hid (show SlI (w.alloc (.cells #[.b false, .i 0, .b false, .u 0, .i 0, .i 0, .b false, .u 0, .i 0] 34)) (w.alloc (.cells #[.b false, .i 0, .b false, .u 0, .i 0, .i 0, .b false, .u 0, .i 0] 34)).heap.size A n xs from (hs.below (bl_alloc (Below.refl _ _) _)).more (by simp))
 clear hs hfl hm hn
 unfold meetI
 generalize mostN ((fulls xs).map (·.lo)) = x at HP ⊢
 generalize leastN ((fulls xs).map (·.hi)) = y at HQ ⊢
 obtain ⟨x0, x1, x2, x3⟩ := x
 obtain ⟨y0, y1, y2, y3⟩ := y
 dsimp only at HP HQ
 have HM := Lib.hid (fun W => makeI_calls x0 x1 x2 x3 y0 y1 y2 y3 W)
 generalize makeI ⟨x0, x1, x2, x3⟩ ⟨y0, y1, y2, y3⟩ = r at HM ⊢
 obtain ⟨r0, ⟨r1, r2, r3, r4⟩, ⟨r5, r6, r7, r8⟩⟩ := r
 dsimp only at HM
 unfold EndsPost at HE
 generalize endsAll xs = al at HE ⊢
 cases al
 ·show Calls _ _ _ _ fun e w' => e = .returned (.agg #[.b true, .i 0, .b false, .u 0, .i 0, .i 0, .b false, .u 0, .i 0]) ∧ _
  go_enter Tryz.func22, Tryz.ntmps22
  go_wp2_with (first
   | (go_at_call 34; refine (HE.out _ HS.out).mono ?_; rintro e w1 ⟨A1, c1, A2, c2, rfl, S1, S2, hb⟩; have BR1 := (Blk.new w _ _).call hb; have HB1 := bl_trans (bl_alloc (Below.refl w.heap.size w) _) hb; have HS1 := Lib.hid S1; have HS2 := Lib.hid S2; clear hb S1 S2)
   | (go_at_call 35; refine (noneI_lit _).mono ?_; rintro e w2 ⟨rfl, hb⟩; have BR2 := BR1.call hb; have HB2 := bl_trans HB1 hb; obtain ⟨W3, hW3, B3, _, hL, hzz⟩ := put9 BR2 (.b true) (.i 0) (.b false) (.u 0) (.i 0) (.i 0) (.b false) (.u 0) (.i 0); have HB3 := hL w HB2 (Nat.le_refl _); obtain ⟨⟨q0, q1, q2, q3, q4, q5, q6, q7, q8⟩, ⟨f0, f1, f2, f3, f4, f5, f6, f7, f8⟩⟩ := BR2.c9; clear hb BR1 BR2 HB1 HB2 hL hzz))
  exact bodyPost_ret (results_cell_row rfl _ _ w.heap.size 34 #[.b true, .i 0, .b false, .u 0, .i 0, .i 0, .b false, .u 0, .i 0] (0, 0) _ rfl B3 Tryz.underlying34 rfl (by kernel_rfl)) rfl ⟨rfl, HB3⟩
 ·show Calls _ _ _ _ fun e w' => e = .returned (.agg #[.b r0, .i r1, .b r2, .u r3, .i r4, .i r5, .b r6, .u r7, .i r8]) ∧ _
  go_enter Tryz.func22, Tryz.ntmps22
  go_wp2_with (first
   | (go_at_call 34; refine (HE.out _ HS.out).mono ?_; rintro e w1 ⟨A1, c1, A2, c2, rfl, S1, S2, hb⟩; have BR1 := (Blk.new w _ _).call hb; have HB1 := bl_trans (bl_alloc (Below.refl w.heap.size w) _) hb; have HS1 := Lib.hid S1; have HS2 := Lib.hid S2; clear hb S1 S2)
   | (go_at_call 36; refine (HP.out _ _ _ HS1.out).mono ?_; rintro e w2 ⟨rfl, hb⟩; have BR2 := BR1.call hb; have HB2 := bl_trans HB1 hb; have HT := Lib.hid ((HS2.out.below hb).more hb.size); clear hb)
   | (go_at_call 37; refine (HQ.out _ _ _ HT.out).mono ?_; rintro e w3 ⟨rfl, hb⟩; have BR3 := BR2.call hb; have HB3 := bl_trans HB2 hb; clear hb)
   | (go_at_call 16; refine (HM.out _).mono ?_; rintro e w4 ⟨rfl, hb⟩; have BR4 := BR3.call hb; have HB4 := bl_trans HB3 hb; obtain ⟨W5, hW5, B5, _, hL, hzz⟩ := put9 BR4 (.b r0) (.i r1) (.b r2) (.u r3) (.i r4) (.i r5) (.b r6) (.u r7) (.i r8); have HB5 := hL w HB4 (Nat.le_refl _); obtain ⟨⟨q0, q1, q2, q3, q4, q5, q6, q7, q8⟩, ⟨f0, f1, f2, f3, f4, f5, f6, f7, f8⟩⟩ := BR4.c9; clear hb BR1 BR2 BR3 BR4 HB1 HB2 HB3 HB4 hL hzz))
  exact bodyPost_ret (results_cell_row rfl _ _ w.heap.size 34 #[.b r0, .i r1, .b r2, .u r3, .i r4, .i r5, .b r6, .u r7, .i r8] (0, 0) _ rfl B5 Tryz.underlying34 rfl (by kernel_rfl)) rfl ⟨rfl, HB5⟩

set_option maxRecDepth 100000 in
set_option maxHeartbeats 4000000 in
theorem hullI_calls (A : Option Addr) (n c : Nat) (xs : List Iv) (w : World) (hs : SlI w w.heap.size A n xs) (hn : n ≤ 2199023255552) :
  Calls Tryz.prog 93 #[.slice A n c] w fun e w' => e = .returned (.agg #[.b (hullI xs).emp, .i ((hullI xs).lo).k, .b ((hullI xs).lo).n, .u ((hullI xs).lo).m, .i ((hullI xs).lo).e, .i ((hullI xs).hi).k, .b ((hullI xs).hi).n, .u ((hullI xs).hi).m, .i ((hullI xs).hi).e]) ∧ Below w.heap.size w w' := by
 have hfl := fulls_length xs
 rw [hs.1] at hfl
 have hm : (fulls xs).length ≤ 4611686018427387904 := by omega
 have HE := Lib.hid (fun W h => ends_calls A n c xs W h hn)
 have HP := Lib.hid (fun A1 c1 W h => leastN_calls A1 (fulls xs).length c1 ((fulls xs).map (·.lo)) W h hm)
 have HQ := Lib.hid (fun A1 c1 W h => mostN_calls A1 (fulls xs).length c1 ((fulls xs).map (·.hi)) W h hm)
 have HS := Lib.hid (show SlI (w.alloc (.cells #[.b false, .i 0, .b false, .u 0, .i 0, .i 0, .b false, .u 0, .i 0] 34)) (w.alloc (.cells #[.b false, .i 0, .b false, .u 0, .i 0, .i 0, .b false, .u 0, .i 0] 34)).heap.size A n xs from (hs.below (bl_alloc (Below.refl _ _) _)).more (by simp))
 clear hs hfl hm hn
 unfold hullI
 generalize leastN ((fulls xs).map (·.lo)) = x at HP ⊢
 generalize mostN ((fulls xs).map (·.hi)) = y at HQ ⊢
 obtain ⟨x0, x1, x2, x3⟩ := x
 obtain ⟨y0, y1, y2, y3⟩ := y
 dsimp only at HP HQ
 have HM := Lib.hid (fun W => makeI_calls x0 x1 x2 x3 y0 y1 y2 y3 W)
 generalize makeI ⟨x0, x1, x2, x3⟩ ⟨y0, y1, y2, y3⟩ = r at HM ⊢
 obtain ⟨r0, ⟨r1, r2, r3, r4⟩, ⟨r5, r6, r7, r8⟩⟩ := r
 dsimp only at HM
 unfold EndsPost at HE
 by_cases hz : fulls xs = []
 ·rw [if_pos hz]
  show Calls _ _ _ _ fun e w' => e = .returned (.agg #[.b true, .i 0, .b false, .u 0, .i 0, .i 0, .b false, .u 0, .i 0]) ∧ _
  rw [hz] at HE
  clear hz HP HQ
  go_enter Tryz.func93, Tryz.ntmps93
  go_wp2_with (first
   | (go_at_call 34; refine (HE.out _ HS.out).mono ?_; rintro e w1 ⟨A1, c1, A2, c2, rfl, S1, S2, hb⟩; have BR1 := (Blk.new w _ _).call hb; have HB1 := bl_trans (bl_alloc (Below.refl w.heap.size w) _) hb; have HS1 := Lib.hid S1; have HS2 := Lib.hid S2; clear hb S1 S2)
   | (go_at_call 35; refine (noneI_lit _).mono ?_; rintro e w2 ⟨rfl, hb⟩; have BR2 := BR1.call hb; have HB2 := bl_trans HB1 hb; obtain ⟨W3, hW3, B3, _, hL, hzz⟩ := put9 BR2 (.b true) (.i 0) (.b false) (.u 0) (.i 0) (.i 0) (.b false) (.u 0) (.i 0); have HB3 := hL w HB2 (Nat.le_refl _); obtain ⟨⟨q0, q1, q2, q3, q4, q5, q6, q7, q8⟩, ⟨f0, f1, f2, f3, f4, f5, f6, f7, f8⟩⟩ := BR2.c9; clear hb BR1 BR2 HB1 HB2 hL hzz))
  exact bodyPost_ret (results_cell_row rfl _ _ w.heap.size 34 #[.b true, .i 0, .b false, .u 0, .i 0, .i 0, .b false, .u 0, .i 0] (0, 0) _ rfl B3 Tryz.underlying34 rfl (by kernel_rfl)) rfl ⟨rfl, HB3⟩
 ·rw [if_neg hz]
  show Calls _ _ _ _ fun e w' => e = .returned (.agg #[.b r0, .i r1, .b r2, .u r3, .i r4, .i r5, .b r6, .u r7, .i r8]) ∧ _
  have hlt : 0 < (fulls xs).length := List.length_pos_iff.2 hz
  clear hz
  have hle : ((((fulls xs).length : Nat) : Int) == 0) = false := beq_eq_false_iff_ne.2 (by omega)
  go_enter Tryz.func93, Tryz.ntmps93
  go_wp2_with (first
   | (go_at_call 34; refine (HE.out _ HS.out).mono ?_; rintro e w1 ⟨A1, c1, A2, c2, rfl, S1, S2, hb⟩; have BR1 := (Blk.new w _ _).call hb; have HB1 := bl_trans (bl_alloc (Below.refl w.heap.size w) _) hb; have HS1 := Lib.hid S1; have HS2 := Lib.hid S2; clear hb S1 S2)
   | (go_at_call 37; refine (HP.out _ _ _ HS1.out).mono ?_; rintro e w2 ⟨rfl, hb⟩; have BR2 := BR1.call hb; have HB2 := bl_trans HB1 hb; have HT := Lib.hid ((HS2.out.below hb).more hb.size); clear hb)
   | (go_at_call 36; refine (HQ.out _ _ _ HT.out).mono ?_; rintro e w3 ⟨rfl, hb⟩; have BR3 := BR2.call hb; have HB3 := bl_trans HB2 hb; clear hb)
   | (go_at_call 16; refine (HM.out _).mono ?_; rintro e w4 ⟨rfl, hb⟩; have BR4 := BR3.call hb; have HB4 := bl_trans HB3 hb; obtain ⟨W5, hW5, B5, _, hL, hzz⟩ := put9 BR4 (.b r0) (.i r1) (.b r2) (.u r3) (.i r4) (.i r5) (.b r6) (.u r7) (.i r8); have HB5 := hL w HB4 (Nat.le_refl _); obtain ⟨⟨q0, q1, q2, q3, q4, q5, q6, q7, q8⟩, ⟨f0, f1, f2, f3, f4, f5, f6, f7, f8⟩⟩ := BR4.c9; clear hb BR1 BR2 BR3 BR4 HB1 HB2 HB3 HB4 hL hzz))
  exact bodyPost_ret (results_cell_row rfl _ _ w.heap.size 34 #[.b r0, .i r1, .b r2, .u r3, .i r4, .i r5, .b r6, .u r7, .i r8] (0, 0) _ rfl B5 Tryz.underlying34 rfl (by kernel_rfl)) rfl ⟨rfl, HB5⟩
end Go.Proofs.YteabdeohhmbclaaGreat.Wk
