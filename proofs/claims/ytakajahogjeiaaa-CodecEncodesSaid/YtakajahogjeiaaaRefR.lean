/- Walk: pelorusref23.Encode, for every slice of ops (up to 256). -/
import Derived.Test.YtakajahogjeiaaaRefQ
namespace Go.Proofs.Ytakajahogjeiaaa.Wk
open Go.RowKit Go.Proofs.Pl Go.Proofs.YtakajahogjeiaaaW.PrintLast
set_option linter.unusedSimpArgs false
set_option linter.unusedVariables false

theorem encOp_eq (x : Op) : encOp x = [x.k % 256] ++ encN x.t ++ encI x.a ++ encI x.b ++ encI x.c := by
  simp [encOp, encIs]
set_option maxRecDepth 100000 in
set_option maxHeartbeats 8000000 in
theorem r23encode_calls (A : Option Addr) (n c : Nat) (xs : List Op) (w : World) (hs : SlO w w.heap.size A n xs) (hu : ∀ x ∈ xs, U64O x) (hn : n ≤ 256) :
    Calls Try.prog 25 #[.slice A n c] w fun e w' => ∃ A' c', e = .returned (.tuple #[.slice A' (encAll xs).length c', .int .i64 (encErr xs)]) ∧ SlB w' w'.heap.size A' (encAll xs).length (encAll xs) ∧ Below w.heap.size w w' := by
  have hni : ¬ (256 : Int) < (n : Int) := by omega
  go_enter Try.func25, Try.ntmps25
  go_wp2
  go_loopw [4, 5, 6] (fun v i _ wr => ∃ k : Nat, k ≤ n ∧ i = .int .i64 k ∧ (xs.take k).all mayOp = true ∧ OwnB wr w.heap.size v (encOps (xs.take k)) ∧ Below w.heap.size w wr) (fun _ i _ _ => n - (intOf i).toNat)
  case atStart => exact ⟨0, Nat.zero_le _, rfl, rfl, OwnB.nil _ _, Below.refl _ _⟩
  case round =>
    obtain ⟨k, hk, rfl, hall, HO, HB⟩ := hrel
    have hbs : w.heap.size ≤ wr.heap.size := HB.size
    by_cases hlt : k < n
    · obtain ⟨b, off, rfl, hbB, hcc⟩ := hs.2 (by omega)
      obtain ⟨x, hx⟩ : ∃ x, xs[k]? = some x := ⟨_, List.getElem?_eq_getElem (show k < xs.length by have := hs.1; omega)⟩
      have hcx := hcc k _ hx
      obtain ⟨hu1, hu2, hu3, hu4⟩ := hu x (List.mem_of_getElem? hx)
      have htk : xs.take (k + 1) = xs.take k ++ [x] := by rw [List.take_add_one, hx]; rfl
      have hen := encOps_snoc (xs.take k) x
      have hal : (xs.take (k + 1)).all mayOp = ((xs.take k).all mayOp && mayOp x) := by rw [htk]; simp
      have hbad : mayOp x = false → encAll xs = [] ∧ encErr xs = 1 := fun h => by
        have : xs.all mayOp = false := by
          rw [List.all_eq_false]
          exact ⟨_, List.mem_of_getElem? hx, by rw [h]; simp⟩
        unfold encAll encErr
        rw [this]
        exact ⟨rfl, rfl⟩
      rw [← htk] at hen
      have hlen := encOps_length (xs.take k)
      have hlk : (xs.take k).length ≤ k := by rw [List.length_take]; omega
      rw [hall, Bool.true_and] at hal
      have HM := Lib.hid (fun W => r23mayOp_calls x W)
      generalize hmy : mayOp x = my at HM hal hbad
      have Hen := Lib.hid hen
      have Hal := Lib.hid hal
      have Hbad := Lib.hid hbad
      have Hs := Lib.hid hs
      have hxl : (encOps (xs.take k)).length ≤ 30000 := by omega
      have hrg : World.rangeAt wr b (off + k * 32) (opCells x) := fun j u hu => (HB.cell (p := ⟨b, _, none⟩) hbB).trans (hcx j u hu)
      have HCX := Lib.hid hcx
      clear hcc hx hcx htk hen hal hbad hlen hlk hall hmy hs hu
      generalize encOps (xs.take k) = L at HO hxl Hen
      obtain ⟨A0, n0, c0', rfl⟩ := HO.form
      have Hld := Lib.hid (fun (ops : Array Oper) (rest : List Oper) (op : Oper) (a : Act) (Q : Exit → Act → World → Prop) (hgd : op.guard = none) (ho : op.op = .load 70 (.tmp 18)) (hx : a.eval (.tmp 18) = .pointer (some ⟨b, off + k * 32, none⟩)) (h : wpList Try.prog ops Q rest (a.put op.dst (.agg (opCells x).toArray)) wr) =>
        wpList_load_mid hgd 70 (.tmp 18) ho b (off + k * 32) hx (opCells x) _ hrg Try.underlying70 rfl (by kernel_rfl) h)
      have hnl := encN_length x.t
      have hal1 := encI_length x.a
      have hal2 := encI_length x.b
      cases my
      · go_wp2_with (first
          | (refine Hld.out _ _ _ _ _ rfl rfl rfl ?_)
          | (go_at_call 59; (with_reducible refine (HM.out _).mono ?_); rintro e w2 ⟨rfl, hb⟩; have HL2 := HB.trans (hb.mono hbs); clear hb))
        go_ret2
        obtain ⟨z1, z2⟩ := Hbad.out (by simp)
        rw [z1, z2]
        exact ⟨none, 0, rfl, ⟨rfl, fun h => absurd h (by simp)⟩, HL2⟩
      · go_wp2_with (first
          | (refine Hld.out _ _ _ _ _ rfl rfl rfl ?_)
          | (go_at_call 59; (with_reducible refine (HM.out _).mono ?_)
             rintro e W2 ⟨rfl, hb⟩
             have HL2 := HB.trans (hb.mono hbs)
             have O2 := HO.call hb
             have hb2 := HL2.size
             have c0 : W2.cell? ⟨b, off + k * 32, none⟩ = some (.int .i64 x.k) := (HL2.cell (p := ⟨b, _, none⟩) hbB).trans (HCX.out 0 _ rfl)
             clear hb)
          | (at_builtin; refine wpList_appB rfl (.tmp 23) (.tmp 30) rfl w.heap.size _ L rfl (O2.alloc _) W2.heap.size 5 (x.k % 256) 1 rfl (Blk.new W2 _ _) (by omega) (by simp; omega) ?_
             intro v3 W3 O3 hg3
             obtain ⟨A3, n3, c3, rfl⟩ := O3.form
             have HL3 := (HL2.alloc hb2 (.cells #[.int .u8 (x.k % 256)] 5)).grown hg3 (by simp; omega) (fun k hk => (O2.lt k hk).1)
             have hb3 := HL3.size
             clear hg3 c0
             have c1 : W3.cell? ⟨b, off + k * 32 + 1, none⟩ = some (.int .i64 x.t.k) := (HL3.cell (p := ⟨b, _, none⟩) hbB).trans (HCX.out 1 _ rfl)
             have c2 : W3.cell? ⟨b, off + k * 32 + 2, none⟩ = some (.bool x.t.n) := (HL3.cell (p := ⟨b, _, none⟩) hbB).trans (HCX.out 2 _ rfl)
             have c3 : W3.cell? ⟨b, off + k * 32 + 3, none⟩ = some (.int .u64 x.t.m) := (HL3.cell (p := ⟨b, _, none⟩) hbB).trans (HCX.out 3 _ rfl)
             have c4 : W3.cell? ⟨b, off + k * 32 + 4, none⟩ = some (.int .i64 x.t.e) := (HL3.cell (p := ⟨b, _, none⟩) hbB).trans (HCX.out 4 _ rfl))
          | (go_at_call 60; (with_reducible refine (rputNumX_calls w.heap.size _ _ x.t hu1 _ O3 hb3 (by simp only [List.length_append, List.length_singleton]; omega)).mono ?_)
             rintro e W5 ⟨v5, rfl, O5, hb, hk5⟩
             have HL5 := HL3.trans hb
             have hb5 := HL5.size
             clear c1 c2 c3 c4
             have c5 : W5.cell? ⟨b, off + k * 32 + 5, none⟩ = some (.bool x.a.emp) := (HL5.cell (p := ⟨b, _, none⟩) hbB).trans (HCX.out 5 _ rfl)
             have c6 : W5.cell? ⟨b, off + k * 32 + 6, none⟩ = some (.int .i64 x.a.lo.k) := (HL5.cell (p := ⟨b, _, none⟩) hbB).trans (HCX.out 6 _ rfl)
             have c7 : W5.cell? ⟨b, off + k * 32 + 7, none⟩ = some (.bool x.a.lo.n) := (HL5.cell (p := ⟨b, _, none⟩) hbB).trans (HCX.out 7 _ rfl)
             have c8 : W5.cell? ⟨b, off + k * 32 + 8, none⟩ = some (.int .u64 x.a.lo.m) := (HL5.cell (p := ⟨b, _, none⟩) hbB).trans (HCX.out 8 _ rfl)
             have c9 : W5.cell? ⟨b, off + k * 32 + 9, none⟩ = some (.int .i64 x.a.lo.e) := (HL5.cell (p := ⟨b, _, none⟩) hbB).trans (HCX.out 9 _ rfl)
             have c10 : W5.cell? ⟨b, off + k * 32 + 10, none⟩ = some (.int .i64 x.a.hi.k) := (HL5.cell (p := ⟨b, _, none⟩) hbB).trans (HCX.out 10 _ rfl)
             have c11 : W5.cell? ⟨b, off + k * 32 + 11, none⟩ = some (.bool x.a.hi.n) := (HL5.cell (p := ⟨b, _, none⟩) hbB).trans (HCX.out 11 _ rfl)
             have c12 : W5.cell? ⟨b, off + k * 32 + 12, none⟩ = some (.int .u64 x.a.hi.m) := (HL5.cell (p := ⟨b, _, none⟩) hbB).trans (HCX.out 12 _ rfl)
             have c13 : W5.cell? ⟨b, off + k * 32 + 13, none⟩ = some (.int .i64 x.a.hi.e) := (HL5.cell (p := ⟨b, _, none⟩) hbB).trans (HCX.out 13 _ rfl))
          | (go_at_call 61; first
           | ((with_reducible refine (rputIvX_calls w.heap.size _ _ x.a hu2 _ O5 hb5 (by simp only [List.length_append, List.length_singleton]; omega)).mono ?_); rintro e W6 ⟨v6, rfl, O6, hb, hk6⟩; have HL6 := HL5.trans hb; have hb6 := HL6.size; clear c5 c6 c7 c8 c9 c10 c11 c12 c13; have c14 : W6.cell? ⟨b, off + k * 32 + 14, none⟩ = some (.bool x.b.emp) := (HL6.cell (p := ⟨b, _, none⟩) hbB).trans (HCX.out 14 _ rfl); have c15 : W6.cell? ⟨b, off + k * 32 + 15, none⟩ = some (.int .i64 x.b.lo.k) := (HL6.cell (p := ⟨b, _, none⟩) hbB).trans (HCX.out 15 _ rfl); have c16 : W6.cell? ⟨b, off + k * 32 + 16, none⟩ = some (.bool x.b.lo.n) := (HL6.cell (p := ⟨b, _, none⟩) hbB).trans (HCX.out 16 _ rfl); have c17 : W6.cell? ⟨b, off + k * 32 + 17, none⟩ = some (.int .u64 x.b.lo.m) := (HL6.cell (p := ⟨b, _, none⟩) hbB).trans (HCX.out 17 _ rfl); have c18 : W6.cell? ⟨b, off + k * 32 + 18, none⟩ = some (.int .i64 x.b.lo.e) := (HL6.cell (p := ⟨b, _, none⟩) hbB).trans (HCX.out 18 _ rfl); have c19 : W6.cell? ⟨b, off + k * 32 + 19, none⟩ = some (.int .i64 x.b.hi.k) := (HL6.cell (p := ⟨b, _, none⟩) hbB).trans (HCX.out 19 _ rfl); have c20 : W6.cell? ⟨b, off + k * 32 + 20, none⟩ = some (.bool x.b.hi.n) := (HL6.cell (p := ⟨b, _, none⟩) hbB).trans (HCX.out 20 _ rfl); have c21 : W6.cell? ⟨b, off + k * 32 + 21, none⟩ = some (.int .u64 x.b.hi.m) := (HL6.cell (p := ⟨b, _, none⟩) hbB).trans (HCX.out 21 _ rfl); have c22 : W6.cell? ⟨b, off + k * 32 + 22, none⟩ = some (.int .i64 x.b.hi.e) := (HL6.cell (p := ⟨b, _, none⟩) hbB).trans (HCX.out 22 _ rfl))
           | ((with_reducible refine (rputIvX_calls w.heap.size _ _ x.b hu3 _ O6 hb6 (by simp only [List.length_append, List.length_singleton]; omega)).mono ?_); rintro e W7 ⟨v7, rfl, O7, hb, hk7⟩; have HL7 := HL6.trans hb; have hb7 := HL7.size; clear c14 c15 c16 c17 c18 c19 c20 c21 c22; have c23 : W7.cell? ⟨b, off + k * 32 + 23, none⟩ = some (.bool x.c.emp) := (HL7.cell (p := ⟨b, _, none⟩) hbB).trans (HCX.out 23 _ rfl); have c24 : W7.cell? ⟨b, off + k * 32 + 24, none⟩ = some (.int .i64 x.c.lo.k) := (HL7.cell (p := ⟨b, _, none⟩) hbB).trans (HCX.out 24 _ rfl); have c25 : W7.cell? ⟨b, off + k * 32 + 25, none⟩ = some (.bool x.c.lo.n) := (HL7.cell (p := ⟨b, _, none⟩) hbB).trans (HCX.out 25 _ rfl); have c26 : W7.cell? ⟨b, off + k * 32 + 26, none⟩ = some (.int .u64 x.c.lo.m) := (HL7.cell (p := ⟨b, _, none⟩) hbB).trans (HCX.out 26 _ rfl); have c27 : W7.cell? ⟨b, off + k * 32 + 27, none⟩ = some (.int .i64 x.c.lo.e) := (HL7.cell (p := ⟨b, _, none⟩) hbB).trans (HCX.out 27 _ rfl); have c28 : W7.cell? ⟨b, off + k * 32 + 28, none⟩ = some (.int .i64 x.c.hi.k) := (HL7.cell (p := ⟨b, _, none⟩) hbB).trans (HCX.out 28 _ rfl); have c29 : W7.cell? ⟨b, off + k * 32 + 29, none⟩ = some (.bool x.c.hi.n) := (HL7.cell (p := ⟨b, _, none⟩) hbB).trans (HCX.out 29 _ rfl); have c30 : W7.cell? ⟨b, off + k * 32 + 30, none⟩ = some (.int .u64 x.c.hi.m) := (HL7.cell (p := ⟨b, _, none⟩) hbB).trans (HCX.out 30 _ rfl); have c31 : W7.cell? ⟨b, off + k * 32 + 31, none⟩ = some (.int .i64 x.c.hi.e) := (HL7.cell (p := ⟨b, _, none⟩) hbB).trans (HCX.out 31 _ rfl))
           | ((with_reducible refine (rputIvX_calls w.heap.size _ _ x.c hu4 _ O7 hb7 (by simp only [List.length_append, List.length_singleton]; omega)).mono ?_); rintro e W8 ⟨v8, rfl, O8, hb, hk8⟩; have HL8 := HL7.trans hb; have hb8 := HL8.size; clear c23 c24 c25 c26 c27 c28 c29 c30 c31; skip)))
        go_roundw
        case rel => exact ⟨k + 1, by omega, by go_num, Hal.out, by rw [Hen.out, encOp_eq]; simp only [List.append_assoc] at O8 ⊢; exact O8, HL8⟩
        case measure => simp [intOf] <;> omega
    · have hkn : n = k := by omega
      subst hkn
      have et : xs.take n = xs := List.take_of_length_le (by have := hs.1; omega)
      rw [et] at HO hall
      obtain ⟨A', c', rfl, S⟩ := OwnB.sl HO
      have h1 : encAll xs = encOps xs := by unfold encAll; rw [if_pos hall]
      have h2 : encErr xs = 0 := by unfold encErr; rw [if_pos hall]
      have H1 := Lib.hid h1
      have H2 := Lib.hid h2
      clear h1 h2
      go_wp2
      go_ret2
      rw [H1.out, H2.out]
      exact ⟨A', c', rfl, S, HB⟩
end Go.Proofs.Ytakajahogjeiaaa.Wk
