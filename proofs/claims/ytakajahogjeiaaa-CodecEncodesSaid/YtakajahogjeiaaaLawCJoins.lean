/- Walks: peloruslaw23.awake, peloruslaw23.CodecJoins. -/
import Derived.Test.YtakajahogjeiaaaCodD
import Derived.Test.YtakajahogjeiaaaCodE
namespace Go.Proofs.Ytakajahogjeiaaa.Wk
open Go.RowKit Go.Proofs.Pl Go.Proofs.YtakajahogjeiaaaW.PrintLast
set_option linter.unusedSimpArgs false
set_option linter.unusedVariables false

/-- bytes as a string -/
theorem SlB.str {w : World} {B n c : Nat} {A : Option Addr} {xs : List Int} (h : SlB w B A n xs) : (convert 31 9 (.slice A n c)).run Try.prog w = .ok (.string (strOfNums xs)) w := by
  by_cases h0 : n = 0
  · subst h0
    have hx : xs = [] := List.eq_nil_of_length_eq_zero h.1
    subst hx
    cases A with
    | none => exact run_convert_bytes_nil w 31 5 Try.underlying31 Try.underlying5 0 c 9 Try.underlying9
    | some a =>
      obtain ⟨b, off, spot⟩ := a
      rw [run_convert_bytes_string w 31 9 5 _ 0 c Try.underlying31 Try.underlying5 Try.underlying9, run_bytesToString w _ 0 c [] (by rfl)]
      rfl
  · obtain ⟨b, off, rfl, _, hc⟩ := h.2 (by omega)
    exact run_convert_bytes_arg w 31 5 Try.underlying31 Try.underlying5 b off n c xs h.1 hc 9 Try.underlying9

def zeroOp : Op := ⟨0, ⟨0, false, 0, 0⟩, ⟨false, ⟨0, false, 0, 0⟩, ⟨0, false, 0, 0⟩⟩, ⟨false, ⟨0, false, 0, 0⟩, ⟨0, false, 0, 0⟩⟩, ⟨false, ⟨0, false, 0, 0⟩, ⟨0, false, 0, 0⟩⟩⟩

set_option maxRecDepth 100000 in
set_option maxHeartbeats 4000000 in
theorem awake23_calls (w : World) : Calls Try.prog 16 #[] w fun e w' => e = .returned (.bool true) ∧ Below w.heap.size w w' := by
  have HE := Lib.hid (fun A c W h => encode_calls A 1 c [zeroOp] W h (by omega))
  rw [show encAll [zeroOp] = [0, 0, 1, 0, 0, 1, 0, 0, 1, 0, 0] from by decide +kernel, show encErr [zeroOp] = 0 from by decide +kernel] at HE
  simp only [List.length_cons, List.length_nil, Nat.reduceAdd] at HE
  have hlit : strOfNums [0, 0, 1, 0, 0, 1, 0, 0, 1, 0, 0] = ⟨#[0, 0, 1, 0, 0, 1, 0, 0, 1, 0, 0]⟩ := by decide +kernel
  go_enter Try.func16, Try.ntmps16
  go_wp2_with (go_at_call 17; (refine (HE.out _ _ _ (SlO.lit1 (x := zeroOp) (Blk.new w _ _) (by simp))).mono ?_); rintro e w1 ⟨A', c', rfl, S, hb⟩; have HB := bl_trans (bl_alloc (Below.refl w.heap.size w) _) hb; have hst := S.str (c := c'); rw [hlit] at hst; clear hb HE)
  all_goals go_ret
  all_goals exact ⟨rfl, HB⟩

theorem run_app0 {w : World} {base : Nat} {v : Value} {xs : List Op} (ty : TypeId) (hown : OwnO w base v xs) (A : Option Addr) (c : Nat) : (Builtin.append_ #[30, 30] ty #[v, .slice A 0 c]).run Try.prog w = .ok v w := by
  obtain ⟨i0, hi, hz0, hz1, hz2⟩ := info_parts infoOp
  rcases hown.2 with ⟨rfl, _⟩ | ⟨g, cap, cur, rfl, _, _, hnc, _⟩
  · cases A <;> simp [Builtin.append_, run_underlying Try.underlying30, sizeOf, typeInfo, hi, hz1, Builtin.lenOf, Builtin.firstCells, loadCells, loadCellsFrom]
  · cases A <;> simp [Builtin.append_, run_underlying Try.underlying30, sizeOf, typeInfo, hi, hz1, Builtin.lenOf, Builtin.firstCells, loadCells, loadCellsFrom, hnc, storeCells]
section
variable {ops : Array Oper} {o : Oper} {a : Act} {Q : Exit → Act → World → Prop} {w : World}
theorem wpList_appO' {rest : List Oper} (hgd : o.guard = none) (s x : Operand) (ho : o.op = .call { callee := .builtin .append, args := #[s, x], argTypes := #[30, 30] }) (base : Nat) (v : Value) (xs : List Op) (hs : a.eval s = v) (hown : OwnO w base v xs) (B : Nat) (A : Option Addr) (m c : Nat) (ys : List Op) (hx : a.eval x = .slice A m c) (hys : SlO w B A m ys) (hsm : xs.length + m ≤ 1000) (hbase : base ≤ w.heap.size)
    (h : ∀ v' w', OwnO w' base v' (xs ++ ys) → w.grownBy w' v.ownBlock → wpList Try.prog ops Q rest (a.put o.dst v') w') : wpList Try.prog ops Q (o :: rest) a w := by
  by_cases h0 : m = 0
  · subst h0
    have hy : ys = [] := List.eq_nil_of_length_eq_zero hys.1
    subst hy
    refine wpList_plain hgd fun _ hK => ?_
    have hr := run_app0 o.type hown A c
    unfold Oper.wp execOp
    simp only [ho, resolve, invoke, builtin, Sem.run_bind, Sem.run_pure, Result.andThen_ok, List.map_toArray, List.map_cons, List.map_nil, hs, hx, hr]
    exact hK _ _ (h v w (by rw [List.append_nil]; exact hown) ⟨rfl, rfl, rfl, Nat.le_refl _, fun _ _ _ => rfl⟩)
  · obtain ⟨b, off, rfl, _, _⟩ := hys.2 (by omega)
    exact wpList_appO hgd s x ho base v xs hs hown B b off m c ys hx hys hsm hbase h
end
theorem encAll_length (l : List Op) : (encAll l).length ≤ 95 * l.length := by
  unfold encAll
  split
  · exact encOps_length l
  · simp
theorem encAll_app (xs ys : List Op) (h1 : xs.all mayOp = true) (h2 : ys.all mayOp = true) : encAll (xs ++ ys) = encAll xs ++ encAll ys ∧ encErr (xs ++ ys) = 0 ∧ encErr xs = 0 ∧ encErr ys = 0 := by
  unfold encAll encErr
  rw [List.all_append, h1, h2]
  exact ⟨encOps_app xs ys, rfl, rfl, rfl⟩
theorem encAll_bad (xs ys : List Op) (h : xs.all mayOp = false ∨ ys.all mayOp = false) : encAll (xs ++ ys) = [] ∧ encErr (xs ++ ys) = 1 ∧ (encErr xs = 1 ∨ encErr xs = 0 ∧ encErr ys = 1) := by
  unfold encAll encErr
  rw [List.all_append]
  cases hx : xs.all mayOp <;> cases hy : ys.all mayOp
  · exact ⟨rfl, rfl, .inl rfl⟩
  · exact ⟨rfl, rfl, .inl rfl⟩
  · exact ⟨rfl, rfl, .inr ⟨rfl, rfl⟩⟩
  · rw [hx, hy] at h; rcases h with h | h <;> cases h

set_option maxRecDepth 100000 in
set_option maxHeartbeats 8000000 in
theorem cjoins_calls (A B : Option Addr) (n m c d : Nat) (xs ys : List Op) (w : World) (hx : SlO w w.heap.size A n xs) (hy : SlO w w.heap.size B m ys) :
    Calls Try.prog 6 #[.slice A n c, .slice B m d] w fun e w' => e = .returned (.bool true) ∧ Below w.heap.size w w' := by
  have HA := Lib.hid (fun W => awake23_calls W)
  by_cases hg : n ≤ 100 ∧ m ≤ 100
  · obtain ⟨hn, hm⟩ := hg
    have hni : ¬ (100 : Int) < (n : Int) := by omega
    have hmi : ¬ (100 : Int) < (m : Int) := by omega
    have HX := Lib.hid (fun W h => encode_calls A n c xs W h (by omega))
    have HY := Lib.hid (fun W h => encode_calls B m d ys W h (by omega))
    have hxl := hx.1
    have hyl := hy.1
    have HZ := Lib.hid (fun A' c' W h => encode_calls A' (n + m) c' (xs ++ ys) W h (by omega))
    have hlen : (xs ++ ys).length = n + m := by rw [List.length_append, hxl, hyl]
    have Hx := Lib.hid hx
    have Hy := Lib.hid hy
    clear hx hy
    by_cases hp : xs.all mayOp = true ∧ ys.all mayOp = true
    · obtain ⟨h1, h2, h3, h4⟩ := encAll_app xs ys hp.1 hp.2
      rw [h1, h2, List.length_append] at HZ
      rw [h3] at HX
      rw [h4] at HY
      clear h1 h2 h3 h4 hp
      have hstr := strOfNums_app (encAll xs) (encAll ys)
      have hu := encAll_length xs
      have hv := encAll_length ys
      generalize encAll xs = u at HX HZ hstr hu
      generalize encAll ys = v at HY HZ hstr hv
      have hsz : (strOfNums u).size + (strOfNums v).size ≤ 1000000 := by rw [strOfNums_size, strOfNums_size]; omega
      have Hstr := Lib.hid hstr
      clear hstr
      go_enter Try.func6, Try.ntmps6
      go_wp2_with (first
        | (go_at_call 16; (with_reducible refine (HA.out _).mono ?_); rintro e w1 ⟨rfl, hb⟩; have HB1 := hb; have S1 := Hx.out.on hb; clear HA hb)
        | (go_at_call 17; first
          | ((with_reducible refine (HX.out _ S1).mono ?_); rintro e w2 ⟨A1, c1, rfl, U2, hb⟩; have HB2 := bl_trans HB1 hb; have S2 := Hy.out.on HB2; clear hb HX)
          | ((with_reducible refine (HY.out _ S2).mono ?_); rintro e w3 ⟨A2, c2, rfl, V3, hb⟩; have HB3 := bl_trans HB2 hb; have U3 := U2.on hb; have X3 := Hx.out.below HB3; clear hb HY)
          | ((with_reducible refine (HZ.out _ _ _ S5).mono ?_); rintro e w6 ⟨A3, c3, rfl, Z6, hb⟩; have HB6 := bl_trans HB5 hb; have T1 := (U5.on hb).str (c := c1); have T2 := (V5.on hb).str (c := c2); have T3 := Z6.str (c := c3); clear hb HZ))
        | (at_builtin; refine wpList_appO' rfl (.const (.slice none 0 0)) (.tmp 37) rfl w3.heap.size (.slice none 0 0) [] rfl (OwnO.nil _ _) w.heap.size A n c xs rfl X3 (by simp; omega) (Nat.le_refl _) ?_
           intro v1 w4 O4 hg4
           have HC4 := (Below.refl w3.heap.size w3).grown hg4 (Nat.le_refl _) (fun k hk => by cases hk)
           have Y4 := Hy.out.below (bl_trans HB3 HC4))
        | (at_builtin; refine wpList_appO' rfl (.tmp 38) (.tmp 39) rfl w3.heap.size v1 ([] ++ xs) rfl O4 w.heap.size B m d ys rfl Y4 (by simp; omega) HC4.size ?_
           intro v2 w5 O5 hg5
           have HC5 := HC4.grown hg5 HC4.size (fun k hk => (O4.lt k hk).1)
           have HB5 := bl_trans HB3 HC5
           have U5 := U3.on HC5
           have V5 := V3.on HC5
           rw [List.nil_append] at O5
           obtain ⟨A', c', hv2, S5⟩ := OwnO.sl O5
           rw [hlen] at hv2 S5
           subst hv2))
      all_goals first
        | (exfalso; omega)
        | (go_ret; exact ⟨ret_boolC (by rw [Hstr.out]; simp), HB6⟩)
    · obtain ⟨h1, h2, h3⟩ := encAll_bad xs ys (by
        cases h4 : xs.all mayOp
        · exact .inl rfl
        · cases h5 : ys.all mayOp
          · exact .inr rfl
          · exact absurd ⟨h4, h5⟩ hp)
      rw [h1, h2] at HZ
      clear h1 h2 hp
      generalize encAll xs = u at HX
      generalize encAll ys = v at HY
      simp only [List.length_nil] at HZ
      rcases h3 with h3 | ⟨h3, h4⟩
      · rw [h3] at HX
        clear h3
        generalize encErr ys = r at HY
        go_enter Try.func6, Try.ntmps6
        go_wp2_with (first
          | (go_at_call 16; (with_reducible refine (HA.out _).mono ?_); rintro e w1 ⟨rfl, hb⟩; have HB1 := hb; have S1 := Hx.out.on hb; clear HA hb)
          | (go_at_call 17; first
            | ((with_reducible refine (HX.out _ S1).mono ?_); rintro e w2 ⟨A1, c1, rfl, U2, hb⟩; have HB2 := bl_trans HB1 hb; have S2 := Hy.out.on HB2; clear hb HX)
            | ((with_reducible refine (HY.out _ S2).mono ?_); rintro e w3 ⟨A2, c2, rfl, V3, hb⟩; have HB3 := bl_trans HB2 hb; have U3 := U2.on hb; have X3 := Hx.out.below HB3; clear hb HY)
            | ((with_reducible refine (HZ.out _ _ _ S5).mono ?_); rintro e w6 ⟨A3, c3, rfl, Z6, hb⟩; have HB6 := bl_trans HB5 hb; have T1 := (U5.on hb).str (c := c1); have T2 := (V5.on hb).str (c := c2); have T3 := Z6.str (c := c3); clear hb HZ))
          | (at_builtin; refine wpList_appO' rfl (.const (.slice none 0 0)) (.tmp 37) rfl w3.heap.size (.slice none 0 0) [] rfl (OwnO.nil _ _) w.heap.size A n c xs rfl X3 (by simp; omega) (Nat.le_refl _) ?_
             intro v1 w4 O4 hg4
             have HC4 := (Below.refl w3.heap.size w3).grown hg4 (Nat.le_refl _) (fun k hk => by cases hk)
             have Y4 := Hy.out.below (bl_trans HB3 HC4))
          | (at_builtin; refine wpList_appO' rfl (.tmp 38) (.tmp 39) rfl w3.heap.size v1 ([] ++ xs) rfl O4 w.heap.size B m d ys rfl Y4 (by simp; omega) HC4.size ?_
             intro v2 w5 O5 hg5
             have HC5 := HC4.grown hg5 HC4.size (fun k hk => (O4.lt k hk).1)
             have HB5 := bl_trans HB3 HC5
             have U5 := U3.on HC5
             have V5 := V3.on HC5
             rw [List.nil_append] at O5
             obtain ⟨A', c', hv2, S5⟩ := OwnO.sl O5
             rw [hlen] at hv2 S5
             subst hv2))
        all_goals go_ret
        all_goals exact ⟨by first | rfl | simp, HB6⟩
      · rw [h3] at HX
        rw [h4] at HY
        clear h3 h4
        go_enter Try.func6, Try.ntmps6
        go_wp2_with (first
          | (go_at_call 16; (with_reducible refine (HA.out _).mono ?_); rintro e w1 ⟨rfl, hb⟩; have HB1 := hb; have S1 := Hx.out.on hb; clear HA hb)
          | (go_at_call 17; first
            | ((with_reducible refine (HX.out _ S1).mono ?_); rintro e w2 ⟨A1, c1, rfl, U2, hb⟩; have HB2 := bl_trans HB1 hb; have S2 := Hy.out.on HB2; clear hb HX)
            | ((with_reducible refine (HY.out _ S2).mono ?_); rintro e w3 ⟨A2, c2, rfl, V3, hb⟩; have HB3 := bl_trans HB2 hb; have U3 := U2.on hb; have X3 := Hx.out.below HB3; clear hb HY)
            | ((with_reducible refine (HZ.out _ _ _ S5).mono ?_); rintro e w6 ⟨A3, c3, rfl, Z6, hb⟩; have HB6 := bl_trans HB5 hb; have T1 := (U5.on hb).str (c := c1); have T2 := (V5.on hb).str (c := c2); have T3 := Z6.str (c := c3); clear hb HZ))
          | (at_builtin; refine wpList_appO' rfl (.const (.slice none 0 0)) (.tmp 37) rfl w3.heap.size (.slice none 0 0) [] rfl (OwnO.nil _ _) w.heap.size A n c xs rfl X3 (by simp; omega) (Nat.le_refl _) ?_
             intro v1 w4 O4 hg4
             have HC4 := (Below.refl w3.heap.size w3).grown hg4 (Nat.le_refl _) (fun k hk => by cases hk)
             have Y4 := Hy.out.below (bl_trans HB3 HC4))
          | (at_builtin; refine wpList_appO' rfl (.tmp 38) (.tmp 39) rfl w3.heap.size v1 ([] ++ xs) rfl O4 w.heap.size B m d ys rfl Y4 (by simp; omega) HC4.size ?_
             intro v2 w5 O5 hg5
             have HC5 := HC4.grown hg5 HC4.size (fun k hk => (O4.lt k hk).1)
             have HB5 := bl_trans HB3 HC5
             have U5 := U3.on HC5
             have V5 := V3.on HC5
             rw [List.nil_append] at O5
             obtain ⟨A', c', hv2, S5⟩ := OwnO.sl O5
             rw [hlen] at hv2 S5
             subst hv2))
        all_goals go_ret
        all_goals exact ⟨by first | rfl | simp, HB6⟩
  · go_enter Try.func6, Try.ntmps6
    go_wp2_with (go_at_call 16; (with_reducible refine (HA.out _).mono ?_); rintro e w1 ⟨rfl, hb1⟩; clear HA)
    all_goals first
      | (exfalso; omega)
      | (go_ret; exact ⟨by simp, hb1⟩)
end Go.Proofs.Ytakajahogjeiaaa.Wk
