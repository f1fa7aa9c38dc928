import Derived.Test.YtagojbgmgkkdpaaGreatMLb
/- Walks: the reference's whole numbers: Make, Add, Two. -/
namespace Go.Proofs.YtagojbgmgkkdpaaGreat.Wk
open Go.RowKit Go.Proofs.Pl Go.Proofs.YtagojbgmgkkdpaaGreatW.PrintLast
set_option linter.unusedSimpArgs false
set_option linter.unusedVariables false

/-- what a function that hands back a whole number leaves: its sign (never that of nought), its limbs -/
def RetW (w : World) (neg : Bool) (N : Nat) (e : Ending) (w' : World) : Prop := ∃ A n c, e = .returned (.agg #[.bool (neg && decide (0 < N)), .slice A n c]) ∧ n ≤ c ∧ SlU w' w'.heap.size A n (digs N) ∧ Below w.heap.size w w'
theorem digs_none (N : Nat) {n : Nat} (h : (digs N).length = n) : (0 < n ↔ 0 < N) := by
 subst h
 by_cases h0 : N = 0
 ·subst h0; rw [digs_zero]; simp
 ·rw [digs_pos h0]; simp; omega
theorem SlU.keep' {w w' : World} {B n : Nat} {A : Option Addr} {xs : List Int} (h : SlU w B A n xs) (hk : ∀ b o x, w.cell? ⟨b, o, none⟩ = some (.int .u32 x) → w'.cell? ⟨b, o, none⟩ = w.cell? ⟨b, o, none⟩) : SlU w' B A n xs :=
 ⟨h.1, h.2.1, fun hn => by
  obtain ⟨b, off, e, hb, hc⟩ := h.2.2 hn
  exact ⟨b, off, e, hb, fun i x hx => (hk b _ x (hc i x hx)).trans (hc i x hx)⟩⟩
theorem SlU.store {w : World} {B n g : Nat} {A : Option Addr} {xs : List Int} {T : TypeId} {cs : Array Value} (h : SlU w B A n xs) (hb : Blk w g T cs) (hc : ∀ (i : Nat) (x : Int), cs[i]? ≠ some (.int .u32 x)) (o : Nat) (v : Value) : SlU (w.setCell ⟨g, o, none⟩ v) B A n xs := by
 refine h.keep' fun b k x hx => ?_
 have hne : b ≠ g := by
  rintro rfl
  rw [hb.cell k] at hx
  exact hc k x hx
 have hh := Below.heap_setCell w ⟨g, o, none⟩ v b hne
 simp only [World.cell?, hh]
set_option maxRecDepth 100000 in
set_option maxHeartbeats 4000000 in
theorem r2make_calls (neg : Bool) (A : Option Addr) (n c : Nat) (xs : List Int) (w : World) (hs : SlU w w.heap.size A n xs) (hn : n ≤ 50000) (hc : n ≤ c) :
  Calls Tryz.prog 126 #[.bool neg, .slice A n c] w (RetW w neg (valL xs)) := by
 have HT := Lib.hid (fun W h => r1trim_calls A n c xs W h (by omega) hc)
 have S := Lib.hid hs
 generalize valL xs = N at HT
 clear hs
 have B0 := Blk.new w 126 #[.bool false, .slice none 0 0]
 have HB0 := bl_alloc (Below.refl w.heap.size w) (.cells #[.bool false, .slice none 0 0] 126)
 cases neg
 ·go_enter Tryz.func126, Tryz.ntmps126
  go_wp2_with (go_at_call 142; (refine (HT.out _ (S.out.on HB0)).mono ?_); rintro e w1 ⟨A1, n1, c1, rfl, hc1, S1, hb⟩; have B1 := B0.call hb; have HB1 := bl_trans HB0 hb; have S1 := Lib.hid S1; have hz := Lib.hid (digs_none N S1.out.1); clear B0; obtain ⟨z0, z1⟩ : w1.cell? ⟨w.heap.size, 0, none⟩ = some (.bool false) ∧ w1.cell? ⟨w.heap.size, 1, none⟩ = some (.slice none 0 0) := ⟨B1.cell 0, B1.cell 1⟩; obtain ⟨f0, f1⟩ : w1.frozen? ⟨w.heap.size, 0, none⟩ = false ∧ w1.frozen? ⟨w.heap.size, 1, none⟩ = false := ⟨B1.frozen 0, B1.frozen 1⟩)
  have B2 : Blk _ w.heap.size 126 #[.bool false, .slice A1 n1 c1] := (B1.set_ 0 (.bool false)).set_ 1 (.slice A1 n1 c1)
  have HB2 := (HB1.setCell (p := ⟨w.heap.size, 0, none⟩) (Nat.le_refl _) (.bool false)).setCell (p := ⟨w.heap.size, 1, none⟩) (Nat.le_refl _) (.slice A1 n1 c1)
  have S2 := (S1.out.store B1 (by intro i x; match i with | 0 => simp | 1 => simp | i + 2 => simp) 0 (.bool false)).store (B1.set_ 0 _) (by intro i x; match i with | 0 => simp | 1 => simp | i + 2 => simp) 1 (.slice A1 n1 c1)
  have e : false = (false && decide (0 < N)) := by simp [hz.out]
  unfold RetW
  rw [← e]
  exact bodyPost_ret (results_cell_row rfl _ _ w.heap.size 126 _ (0, 0) _ rfl B2 Tryz.underlying126 rfl (by kernel_rfl)) rfl ⟨A1, n1, c1, rfl, hc1, S2.more (by simp), HB2⟩
 ·go_enter Tryz.func126, Tryz.ntmps126
  go_wp2_with (go_at_call 142; (refine (HT.out _ (S.out.on HB0)).mono ?_); rintro e w1 ⟨A1, n1, c1, rfl, hc1, S1, hb⟩; have B1 := B0.call hb; have HB1 := bl_trans HB0 hb; have S1 := Lib.hid S1; have hz := Lib.hid (digs_none N S1.out.1); clear B0; obtain ⟨z0, z1⟩ : w1.cell? ⟨w.heap.size, 0, none⟩ = some (.bool false) ∧ w1.cell? ⟨w.heap.size, 1, none⟩ = some (.slice none 0 0) := ⟨B1.cell 0, B1.cell 1⟩; obtain ⟨f0, f1⟩ : w1.frozen? ⟨w.heap.size, 0, none⟩ = false ∧ w1.frozen? ⟨w.heap.size, 1, none⟩ = false := ⟨B1.frozen 0, B1.frozen 1⟩)
  have B2 : Blk _ w.heap.size 126 #[.bool (decide (0 < n1)), .slice A1 n1 c1] := (B1.set_ 0 (.bool (decide (0 < n1)))).set_ 1 (.slice A1 n1 c1)
  have HB2 := (HB1.setCell (p := ⟨w.heap.size, 0, none⟩) (Nat.le_refl _) (.bool (decide (0 < n1)))).setCell (p := ⟨w.heap.size, 1, none⟩) (Nat.le_refl _) (.slice A1 n1 c1)
  have S2 := (S1.out.store B1 (by intro i x; match i with | 0 => simp | 1 => simp | i + 2 => simp) 0 (.bool (decide (0 < n1)))).store (B1.set_ 0 _) (by intro i x; match i with | 0 => simp | 1 => simp | i + 2 => simp) 1 (.slice A1 n1 c1)
  have e : (decide (0 < n1)) = (true && decide (0 < N)) := by simp [hz.out]
  unfold RetW
  rw [← e]
  exact bodyPost_ret (results_cell_row rfl _ _ w.heap.size 126 _ (0, 0) _ rfl B2 Tryz.underlying126 rfl (by kernel_rfl)) rfl ⟨A1, n1, c1, rfl, hc1, S2.more (by simp), HB2⟩
end Go.Proofs.YtagojbgmgkkdpaaGreat.Wk

/- Walk: the reference's product of whole numbers. -/
namespace Go.Proofs.YtagojbgmgkkdpaaGreat.Wk
open Go.RowKit Go.Proofs.Pl Go.Proofs.YtagojbgmgkkdpaaGreatW.PrintLast
set_option linter.unusedSimpArgs false
set_option linter.unusedVariables false

theorem retW_of {w w' : World} {neg neg' : Bool} {N : Nat} {e : Ending} (h : RetW w neg N e w') (he : 0 < N → neg = neg') : RetW w neg' N e w' := by
 have e' : (neg && decide (0 < N)) = (neg' && decide (0 < N)) := by
  by_cases h0 : 0 < N
  ·rw [he h0]
  ·rw [decide_eq_false h0, Bool.and_false, Bool.and_false]
 unfold RetW at h ⊢
 rw [← e']
 exact h
set_option maxRecDepth 100000 in
set_option maxHeartbeats 4000000 in
theorem r2two_calls (na nb : Bool) (A : Option Addr) (n c : Nat) (xs : List Int) (B : Option Addr) (m d : Nat) (ys : List Int) (w : World) (hs : SlU w w.heap.size A n xs) (ht : SlU w w.heap.size B m ys) (hn : n ≤ 10000) (hm : m ≤ 10000) (hc : n ≤ c) (hd : m ≤ d) :
  Calls Tryz.prog 140 #[.agg #[.bool na, .slice A n c], .agg #[.bool nb, .slice B m d]] w (RetW w (na != nb) (valL xs * valL ys)) := by
 have HM := Lib.hid (fun W h g => r1mul_calls A n c xs B m d ys W h g hn hm hc hd)
 have S := Lib.hid hs
 have T := Lib.hid ht
 have hlen : ∀ n', (digs (valL xs * valL ys)).length = n' → n' ≤ 20000 := fun n' h => by
  rw [← h]
  refine Nat.le_trans (digs_len (k := n + m) ?_) (by omega)
  have h1 := valL_lt hs.2.1
  have h2 := valL_lt ht.2.1
  rw [hs.1] at h1
  rw [ht.1] at h2
  rw [Nat.pow_add]
  exact Nat.mul_lt_mul'' h1 h2
 have hlen := Lib.hid hlen
 generalize valL xs * valL ys = N at HM hlen ⊢
 clear hs ht
 go_enter Tryz.func140, Tryz.ntmps140
 go_wp2_with fail
 have BA : Blk _ w.heap.size 126 #[.bool na, .slice A n c] := Blk.drew (Blk.alloc (Blk.alloc (Blk.new w _ _) (.cells #[.bool nb, .slice B m d] 126)) (.cells #[.bool false, .slice none 0 0] 126))
 have BB : Blk _ (w.heap.size + 1) 126 #[.bool nb, .slice B m d] := Blk.drew (Blk.alloc (Blk.new1 w (.cells #[.bool na, .slice A n c] 126) _ _) (.cells #[.bool false, .slice none 0 0] 126))
 have BR : Blk _ (w.heap.size + 1 + 1) 126 #[.bool false, .slice none 0 0] := Blk.drew (Blk.new2 w (.cells #[.bool na, .slice A n c] 126) (.cells #[.bool nb, .slice B m d] 126) _ _)
 have HBd := bl_drew (bl_alloc (bl_alloc (bl_alloc (Below.refl w.heap.size w) (.cells #[.bool na, .slice A n c] 126)) (.cells #[.bool nb, .slice B m d] 126)) (.cells #[.bool false, .slice none 0 0] 126))
 refine start_ (n := 12) (S := fun w' => w'.cell? ⟨w.heap.size, 0, none⟩ = some (.bool na) ∧ w'.cell? ⟨w.heap.size, 1, none⟩ = some (.slice A n c) ∧ w'.cell? ⟨w.heap.size + 1, 0, none⟩ = some (.bool nb) ∧ w'.cell? ⟨w.heap.size + 1, 1, none⟩ = some (.slice B m d)) (ds := [11]) (bq 12 0) (by kernel_rfl) rfl rfl ⟨BA.cell 0, BA.cell 1, BB.cell 0, BB.cell 1⟩ (fun hHeld => ?_)
 refine pure_ (i := 0) (N := some 5) (v := ?_) (a' := ?_) (bq 12 1) rfl rfl (by kernel_rfl) (fun _ _ _ h => h) (Or.inl ⟨by rfl, ?_⟩) ?_ ?_
 rotate_left
 ·intro w'
  go_simp
  with_reducible rfl
 rotate_left
 ·simp only [Act.put, pA, pB, pC]
  rfl
 refine take_ (i := 1) (N := some 6) (v := ?_) (a' := ?_) (bq 12 3) rfl rfl (by kernel_rfl) (fun _ _ _ h => h) (Or.inl ⟨by rfl, ?_⟩) hHeld ?_ ?_
 rotate_left
 ·rintro w' ⟨s0_, s1_, s2_, s3_⟩
  go_simp
  with_reducible rfl
 rotate_left
 ·simp only [Act.put, pA, pB, pC]
  rfl
 refine pure_ (i := 2) (N := some 7) (v := ?_) (a' := ?_) (bq 12 7) rfl rfl (by kernel_rfl) (fun _ _ _ h => h) (Or.inl ⟨by rfl, ?_⟩) ?_ ?_
 rotate_left
 ·intro w'
  go_simp
  with_reducible rfl
 rotate_left
 ·simp only [Act.put, pA, pB, pC]
  rfl
 refine take_ (i := 3) (N := some 8) (v := ?_) (a' := ?_) (bq 12 15) rfl rfl (by kernel_rfl) (fun _ _ _ h => h) (Or.inl ⟨by rfl, ?_⟩) hHeld ?_ ?_
 rotate_left
 ·rintro w' ⟨s0_, s1_, s2_, s3_⟩
  go_simp
  with_reducible rfl
 rotate_left
 ·simp only [Act.put, pA, pB, pC]
  rfl
 refine pure_ (i := 4) (N := some 9) (v := ?_) (a' := ?_) (bq 12 31) rfl rfl (by kernel_rfl) (fun _ _ _ h => h) (Or.inl ⟨by rfl, ?_⟩) ?_ ?_
 rotate_left
 ·intro w'
  go_simp
  with_reducible rfl
 rotate_left
 ·simp only [Act.put, pA, pB, pC]
  rfl
 refine pure_ (i := 5) (N := some 10) (v := ?_) (a' := ?_) (bq 12 63) rfl rfl (by kernel_rfl) (fun _ _ _ h => h) (Or.inl ⟨by rfl, ?_⟩) ?_ ?_
 rotate_left
 ·intro w'
  go_simp
  with_reducible rfl
 rotate_left
 ·simp only [Act.put, pA, pB, pC]
  rfl
 refine take_ (i := 6) (N := some 11) (v := ?_) (a' := ?_) (bq 12 127) rfl rfl (by kernel_rfl) (fun _ _ _ h => h) (Or.inl ⟨by rfl, ?_⟩) hHeld ?_ ?_
 rotate_left
 ·rintro w' ⟨s0_, s1_, s2_, s3_⟩
  go_simp
  with_reducible rfl
 rotate_left
 ·simp only [Act.put, pA, pB, pC]
  rfl
 refine pure_ (i := 7) (N := some 12) (v := ?_) (a' := ?_) (bq 12 255) rfl rfl (by kernel_rfl) (fun _ _ _ h => h) (Or.inl ⟨by rfl, ?_⟩) ?_ ?_
 rotate_left
 ·intro w'
  go_simp
  with_reducible rfl
 rotate_left
 ·simp only [Act.put, pA, pB, pC]
  rfl
 refine take_ (i := 8) (N := some 13) (v := ?_) (a' := ?_) (bq 12 511) rfl rfl (by kernel_rfl) (fun _ _ _ h => h) (Or.inl ⟨by rfl, ?_⟩) hHeld ?_ ?_
 rotate_left
 ·rintro w' ⟨s0_, s1_, s2_, s3_⟩
  go_simp
  with_reducible rfl
 rotate_left
 ·simp only [Act.put, pA, pB, pC]
  rfl
 refine one_ (i := 9) (N := some 14) (bq 12 1023) rfl rfl (by kernel_rfl) (by decide) (fun K hK => ?_)
 refine goes_ Tryz.func143 (by kernel_rfl) rfl #[.slice A n c, .slice B m d] (by first | rfl | go_simp) rfl rfl (by simp only [List.map_toArray, List.map_cons, List.map_nil] <;> rfl) ?_
 with_reducible refine (HM.out _ (S.out.on HBd) (T.out.on HBd)).mono ?_
 rintro e w1 ⟨A1, n1, c1, rfl, hc1, S1, hb⟩
 refine ⟨_, rfl, ?_⟩
 have S1 := Lib.hid S1
 have BA := BA.call hb
 have BB := BB.call hb
 have BR := BR.call hb
 have HBd := bl_trans HBd hb
 have hn1 := hlen.out n1 S1.out.1
 have HMk := Lib.hid (r2make_calls (na != nb) A1 n1 c1 _ w1 S1.out (by omega) hc1)
 refine hK.out _ _ ⟨BA.cell 0, BA.cell 1, BB.cell 0, BB.cell 1⟩ (fun hHeld => ?_)
 clear hK K hb
 refine norm_ (a' := ?_) ?_ ?_
 rotate_left
 ·show Act.put _ (some 14) _ = _
  simp only [Act.put, pA, pB, pC]
  rfl
 refine one_ (i := 10) (N := some 15) (bq 12 2047) rfl rfl (by kernel_rfl) (by decide) (fun K hK => ?_)
 refine goes_ Tryz.func126 (by kernel_rfl) rfl #[.bool (na != nb), .slice A1 n1 c1] (by first | rfl | go_simp) rfl rfl (by simp only [List.map_toArray, List.map_cons, List.map_nil] <;> rfl) ?_
 with_reducible refine (HMk.out).mono ?_
 rintro e w2 ⟨A2, n2, c2, rfl, hc2, S2, hb⟩
 refine ⟨_, rfl, ?_⟩
 have S2 := Lib.hid S2
 have BA := BA.call hb
 have BB := BB.call hb
 have BR := BR.call hb
 have HBd := bl_trans HBd hb
 obtain ⟨z0, z1⟩ : w2.cell? ⟨w.heap.size + 1 + 1, 0, none⟩ = some (.bool false) ∧ w2.cell? ⟨w.heap.size + 1 + 1, 1, none⟩ = some (.slice none 0 0) := ⟨BR.cell 0, BR.cell 1⟩
 obtain ⟨f0, f1⟩ : w2.frozen? ⟨w.heap.size + 1 + 1, 0, none⟩ = false ∧ w2.frozen? ⟨w.heap.size + 1 + 1, 1, none⟩ = false := ⟨BR.frozen 0, BR.frozen 1⟩
 refine hK.out _ _ ⟨BA.cell 0, BA.cell 1, BB.cell 0, BB.cell 1⟩ (fun hHeld => ?_)
 clear hK K hb
 refine norm_ (a' := ?_) ?_ ?_
 rotate_left
 ·show Act.put _ (some 15) _ = _
  simp only [Act.put, pA, pB, pC]
  rfl
 refine last_ (i := 11) (N := none) (bq 12 4095) rfl rfl (by kernel_rfl) (by decide) (fun K hK => ?_)
 refine skip_ (w1 := ?_) (by rfl) rfl ?_ ?_
 rotate_left
 ·go_simp
  rfl
 refine hK.out _ _ ?_
 clear hK K
 refine done_ (by kernel_rfl) ?_
 go_wp2_with fail
 rw [valL_digs] at S2 ⊢
 unfold RetW
 generalize (na != nb && decide (0 < N)) = sg
 have B2 : Blk _ (w.heap.size + 1 + 1) 126 #[.bool sg, .slice A2 n2 c2] := (BR.set_ 0 (.bool sg)).set_ 1 (.slice A2 n2 c2)
 have HB2 := (HBd.setCell (p := ⟨w.heap.size + 1 + 1, 0, none⟩) (by show w.heap.size ≤ w.heap.size + 1 + 1; omega) (.bool sg)).setCell (p := ⟨w.heap.size + 1 + 1, 1, none⟩) (by show w.heap.size ≤ w.heap.size + 1 + 1; omega) (.slice A2 n2 c2)
 have S3 := (S2.out.store BR (by intro i x; match i with | 0 => simp | 1 => simp | i + 2 => simp) 0 (.bool sg)).store (BR.set_ 0 _) (by intro i x; match i with | 0 => simp | 1 => simp | i + 2 => simp) 1 (.slice A2 n2 c2)
 exact bodyPost_ret (results_cell_row rfl _ _ (w.heap.size + 1 + 1) 126 _ (0, 0) _ rfl B2 Tryz.underlying126 rfl (by kernel_rfl)) rfl ⟨A2, n2, c2, rfl, hc2, S3.more (by simp), HB2⟩
end Go.Proofs.YtagojbgmgkkdpaaGreat.Wk

/- Walk: the reference's sum of whole numbers. -/
namespace Go.Proofs.YtagojbgmgkkdpaaGreat.Wk
open Go.RowKit Go.Proofs.Pl Go.Proofs.YtagojbgmgkkdpaaGreatW.PrintLast
set_option linter.unusedSimpArgs false
set_option linter.unusedVariables false

/-- a sign and a number -/
def sgnZ (neg : Bool) (N : Nat) : Int := if neg then -(N : Int) else N
set_option maxRecDepth 100000 in
set_option maxHeartbeats 4000000 in
theorem r2addSame_calls (na : Bool) (A : Option Addr) (n c : Nat) (xs : List Int) (B : Option Addr) (m d : Nat) (ys : List Int) (w : World) (hs : SlU w w.heap.size A n xs) (ht : SlU w w.heap.size B m ys) (hn : n ≤ 10000) (hm : m ≤ 10000) (hc : n ≤ c) (hd : m ≤ d) :
  Calls Tryz.prog 134 #[.agg #[.bool na, .slice A n c], .agg #[.bool na, .slice B m d]] w (RetW w na (valL xs + valL ys)) := by
 have HM := Lib.hid (fun W h g => r1add_calls A n c xs B m d ys W h g (by omega) (by omega))
 have hlen : ∀ n', (digs (valL xs + valL ys)).length = n' → n' ≤ 20001 := fun n' h => by
  rw [← h]
  refine Nat.le_trans (digs_len (k := max n m + 1) ?_) (by omega)
  have h1 := valL_lt hs.2.1
  have h2 := valL_lt ht.2.1
  rw [hs.1] at h1
  rw [ht.1] at h2
  have h3 : 4294967296 ^ n ≤ 4294967296 ^ max n m := Nat.pow_le_pow_right (by decide) (by omega)
  have h4 : 4294967296 ^ m ≤ 4294967296 ^ max n m := Nat.pow_le_pow_right (by decide) (by omega)
  rw [Nat.pow_succ]
  omega
 have hlen := Lib.hid hlen
 generalize valL xs + valL ys = N at HM hlen ⊢
 have S := Lib.hid hs
 have T := Lib.hid ht
 clear hs ht
 go_enter Tryz.func134, Tryz.ntmps134
 go_wp2_with fail
 have BA : Blk _ w.heap.size 126 #[.bool na, .slice A n c] := (Blk.alloc (Blk.alloc (Blk.new w _ _) (.cells #[.bool na, .slice B m d] 126)) (.cells #[.bool false, .slice none 0 0] 126))
 have BB : Blk _ (w.heap.size + 1) 126 #[.bool na, .slice B m d] := (Blk.alloc (Blk.new1 w (.cells #[.bool na, .slice A n c] 126) _ _) (.cells #[.bool false, .slice none 0 0] 126))
 have BR : Blk _ (w.heap.size + 1 + 1) 126 #[.bool false, .slice none 0 0] := (Blk.new2 w (.cells #[.bool na, .slice A n c] 126) (.cells #[.bool na, .slice B m d] 126) _ _)
 have HBd := (bl_alloc (bl_alloc (bl_alloc (Below.refl w.heap.size w) (.cells #[.bool na, .slice A n c] 126)) (.cells #[.bool na, .slice B m d] 126)) (.cells #[.bool false, .slice none 0 0] 126))
 replace BA := BA.drew
 replace BB := BB.drew
 replace BR := BR.drew
 replace HBd := bl_drew HBd
 refine start_ (n := 9) (S := fun w' => w'.cell? ⟨w.heap.size, 0, none⟩ = some (.bool na) ∧ w'.cell? ⟨w.heap.size, 1, none⟩ = some (.slice A n c) ∧ w'.cell? ⟨w.heap.size + 1, 0, none⟩ = some (.bool na) ∧ w'.cell? ⟨w.heap.size + 1, 1, none⟩ = some (.slice B m d)) (ds := [8]) (bq 9 0) (by kernel_rfl) rfl rfl ⟨BA.cell 0, BA.cell 1, BB.cell 0, BB.cell 1⟩ (fun hHeld => ?_)
 refine pure_ (i := 0) (N := some 12) (v := ?_) (a' := ?_) (bq 9 1) rfl rfl (by kernel_rfl) (fun _ _ _ h => h) (Or.inl ⟨by rfl, ?_⟩) ?_ ?_
 rotate_left
 ·intro w'
  go_simp
  with_reducible rfl
 rotate_left
 ·simp only [Act.put, pA, pB, pC]
  rfl
 refine take_ (i := 1) (N := some 13) (v := ?_) (a' := ?_) (bq 9 3) rfl rfl (by kernel_rfl) (fun _ _ _ h => h) (Or.inl ⟨by rfl, ?_⟩) hHeld ?_ ?_
 rotate_left
 ·rintro w' ⟨s0_, s1_, s2_, s3_⟩
  go_simp
  with_reducible rfl
 rotate_left
 ·simp only [Act.put, pA, pB, pC]
  rfl
 refine pure_ (i := 2) (N := some 14) (v := ?_) (a' := ?_) (bq 9 7) rfl rfl (by kernel_rfl) (fun _ _ _ h => h) (Or.inl ⟨by rfl, ?_⟩) ?_ ?_
 rotate_left
 ·intro w'
  go_simp
  with_reducible rfl
 rotate_left
 ·simp only [Act.put, pA, pB, pC]
  rfl
 refine take_ (i := 3) (N := some 15) (v := ?_) (a' := ?_) (bq 9 15) rfl rfl (by kernel_rfl) (fun _ _ _ h => h) (Or.inl ⟨by rfl, ?_⟩) hHeld ?_ ?_
 rotate_left
 ·rintro w' ⟨s0_, s1_, s2_, s3_⟩
  go_simp
  with_reducible rfl
 rotate_left
 ·simp only [Act.put, pA, pB, pC]
  rfl
 refine pure_ (i := 4) (N := some 16) (v := ?_) (a' := ?_) (bq 9 31) rfl rfl (by kernel_rfl) (fun _ _ _ h => h) (Or.inl ⟨by rfl, ?_⟩) ?_ ?_
 rotate_left
 ·intro w'
  go_simp
  with_reducible rfl
 rotate_left
 ·simp only [Act.put, pA, pB, pC]
  rfl
 refine take_ (i := 5) (N := some 17) (v := ?_) (a' := ?_) (bq 9 63) rfl rfl (by kernel_rfl) (fun _ _ _ h => h) (Or.inl ⟨by rfl, ?_⟩) hHeld ?_ ?_
 rotate_left
 ·rintro w' ⟨s0_, s1_, s2_, s3_⟩
  go_simp
  with_reducible rfl
 rotate_left
 ·simp only [Act.put, pA, pB, pC]
  rfl
 refine one_ (i := 6) (N := some 18) (bq 9 127) rfl rfl (by kernel_rfl) (by decide) (fun K hK => ?_)
 refine goes_ Tryz.func133 (by kernel_rfl) rfl #[.slice A n c, .slice B m d] (by first | rfl | go_simp) rfl rfl (by simp only [List.map_toArray, List.map_cons, List.map_nil] <;> rfl) ?_
 with_reducible refine (HM.out _ (S.out.on HBd) (T.out.on HBd)).mono ?_
 rintro e w1 ⟨A1, n1, c1, rfl, hc1, S1, hb⟩
 refine ⟨_, rfl, ?_⟩
 have S1 := Lib.hid S1
 have BA := BA.call hb
 have BB := BB.call hb
 have BR := BR.call hb
 have HBd := bl_trans HBd hb
 have hn1 := hlen.out n1 S1.out.1
 have HMk := Lib.hid (r2make_calls na A1 n1 c1 _ w1 S1.out (by omega) hc1)
 refine hK.out _ _ ⟨BA.cell 0, BA.cell 1, BB.cell 0, BB.cell 1⟩ (fun hHeld => ?_)
 clear hK K hb
 refine norm_ (a' := ?_) ?_ ?_
 rotate_left
 ·show Act.put _ (some 18) _ = _
  simp only [Act.put, pA, pB, pC]
  rfl
 refine one_ (i := 7) (N := some 19) (bq 9 255) rfl rfl (by kernel_rfl) (by decide) (fun K hK => ?_)
 refine goes_ Tryz.func126 (by kernel_rfl) rfl #[.bool na, .slice A1 n1 c1] (by first | rfl | go_simp) rfl rfl (by simp only [List.map_toArray, List.map_cons, List.map_nil] <;> rfl) ?_
 with_reducible refine (HMk.out).mono ?_
 rintro e w2 ⟨A2, n2, c2, rfl, hc2, S2, hb⟩
 refine ⟨_, rfl, ?_⟩
 have S2 := Lib.hid S2
 have BA := BA.call hb
 have BB := BB.call hb
 have BR := BR.call hb
 have HBd := bl_trans HBd hb
 obtain ⟨z0, z1⟩ : w2.cell? ⟨w.heap.size + 1 + 1, 0, none⟩ = some (.bool false) ∧ w2.cell? ⟨w.heap.size + 1 + 1, 1, none⟩ = some (.slice none 0 0) := ⟨BR.cell 0, BR.cell 1⟩
 obtain ⟨f0, f1⟩ : w2.frozen? ⟨w.heap.size + 1 + 1, 0, none⟩ = false ∧ w2.frozen? ⟨w.heap.size + 1 + 1, 1, none⟩ = false := ⟨BR.frozen 0, BR.frozen 1⟩
 refine hK.out _ _ ⟨BA.cell 0, BA.cell 1, BB.cell 0, BB.cell 1⟩ (fun hHeld => ?_)
 clear hK K hb
 refine norm_ (a' := ?_) ?_ ?_
 rotate_left
 ·show Act.put _ (some 19) _ = _
  simp only [Act.put, pA, pB, pC]
  rfl
 refine last_ (i := 8) (N := none) (bq 9 511) rfl rfl (by kernel_rfl) (by decide) (fun K hK => ?_)
 refine skip_ (w1 := ?_) (by rfl) rfl ?_ ?_
 rotate_left
 ·go_simp
  rfl
 refine hK.out _ _ ?_
 clear hK K
 refine done_ (by kernel_rfl) ?_
 go_wp2_with fail
 rw [valL_digs] at S2 ⊢
 unfold RetW
 generalize (na && decide (0 < N)) = sg
 have B2 : Blk _ (w.heap.size + 1 + 1) 126 #[.bool sg, .slice A2 n2 c2] := (BR.set_ 0 (.bool sg)).set_ 1 (.slice A2 n2 c2)
 have HB2 := (HBd.setCell (p := ⟨w.heap.size + 1 + 1, 0, none⟩) (by show w.heap.size ≤ w.heap.size + 1 + 1; omega) (.bool sg)).setCell (p := ⟨w.heap.size + 1 + 1, 1, none⟩) (by show w.heap.size ≤ w.heap.size + 1 + 1; omega) (.slice A2 n2 c2)
 have S3 := (S2.out.store BR (by intro i x; match i with | 0 => simp | 1 => simp | i + 2 => simp) 0 (.bool sg)).store (BR.set_ 0 _) (by intro i x; match i with | 0 => simp | 1 => simp | i + 2 => simp) 1 (.slice A2 n2 c2)
 exact bodyPost_ret (results_cell_row rfl _ _ (w.heap.size + 1 + 1) 126 _ (0, 0) _ rfl B2 Tryz.underlying126 rfl (by kernel_rfl)) rfl ⟨A2, n2, c2, rfl, hc2, S3.more (by simp), HB2⟩
set_option maxRecDepth 100000 in
set_option maxHeartbeats 4000000 in
theorem r2addDiff_calls (na nb : Bool) (hab : (na == nb) = false) (A : Option Addr) (n c : Nat) (xs : List Int) (B : Option Addr) (m d : Nat) (ys : List Int) (w : World) (hs : SlU w w.heap.size A n xs) (ht : SlU w w.heap.size B m ys) (hn : n ≤ 10000) (hm : m ≤ 10000) (hc : n ≤ c) (hd : m ≤ d) :
  Calls Tryz.prog 134 #[.agg #[.bool na, .slice A n c], .agg #[.bool nb, .slice B m d]] w (RetW w (if valL ys ≤ valL xs then na else nb) (if valL ys ≤ valL xs then valL xs - valL ys else valL ys - valL xs)) := by
 have HM := Lib.hid (fun W h g => r1sub_calls A n c xs B m d ys W h g (by omega) (by omega) hc hd)
 have HM' := Lib.hid (fun W h g => r1sub_calls B m d ys A n c xs W g h (by omega) (by omega) hd hc)
 unfold RetS at HM HM'
 have hlx : ∀ n', (digs (valL xs - valL ys)).length = n' → n' ≤ 10000 := fun n' h => by
  rw [← h]
  refine Nat.le_trans (digs_len (k := n) ?_) (by omega)
  have h1 := valL_lt hs.2.1
  rw [hs.1] at h1
  omega
 have hly : ∀ n', (digs (valL ys - valL xs)).length = n' → n' ≤ 10000 := fun n' h => by
  rw [← h]
  refine Nat.le_trans (digs_len (k := m) ?_) (by omega)
  have h1 := valL_lt ht.2.1
  rw [ht.1] at h1
  omega
 have hlx := Lib.hid hlx
 have hly := Lib.hid hly
 have S := Lib.hid hs
 have T := Lib.hid ht
 clear hs ht
 generalize valL xs = X at HM HM' hlx hly ⊢
 generalize valL ys = Y at HM HM' hlx hly ⊢
 have BA : Blk _ w.heap.size 126 #[.bool na, .slice A n c] := (Blk.alloc (Blk.alloc (Blk.new w _ _) (.cells #[.bool nb, .slice B m d] 126)) (.cells #[.bool false, .slice none 0 0] 126))
 have BB : Blk _ (w.heap.size + 1) 126 #[.bool nb, .slice B m d] := (Blk.alloc (Blk.new1 w (.cells #[.bool na, .slice A n c] 126) _ _) (.cells #[.bool false, .slice none 0 0] 126))
 have BR : Blk _ (w.heap.size + 1 + 1) 126 #[.bool false, .slice none 0 0] := (Blk.new2 w (.cells #[.bool na, .slice A n c] 126) (.cells #[.bool nb, .slice B m d] 126) _ _)
 have HBd := (bl_alloc (bl_alloc (bl_alloc (Below.refl w.heap.size w) (.cells #[.bool na, .slice A n c] 126)) (.cells #[.bool nb, .slice B m d] 126)) (.cells #[.bool false, .slice none 0 0] 126))
 by_cases hXY : Y ≤ X
 ·rw [if_pos hXY, if_pos hXY]
  rw [decide_eq_true hXY] at HM
  have hlen := hlx
  clear hlx hly HM' hXY
  go_enter Tryz.func134, Tryz.ntmps134
  go_wp2_with (first
   | (go_at_call 146; (with_reducible refine (HM.out _ (S.out.on HBd) (T.out.on HBd)).mono ?_); rintro e w1 ⟨A1, n1, c1, rfl, hc1, S1, hb⟩; have S1 := Lib.hid S1; replace BA := BA.call hb; replace BR := BR.call hb; clear BB; replace HBd := bl_trans HBd hb; have hn1 := hlen.out n1 S1.out.1; obtain ⟨y0, y1⟩ : w1.cell? ⟨w.heap.size, 0, none⟩ = some (.bool na) ∧ w1.cell? ⟨w.heap.size, 1, none⟩ = some (.slice A n c) := ⟨BA.cell 0, BA.cell 1⟩)
   | (go_at_call 126; (with_reducible refine (r2make_calls na A1 n1 c1 _ w1 S1.out (by omega) hc1).mono ?_); rintro e w2 ⟨A2, n2, c2, rfl, hc2, S2, hb⟩; have S2 := Lib.hid S2; replace BR := BR.call hb; clear BA; replace HBd := bl_trans HBd hb; obtain ⟨z0, z1⟩ : w2.cell? ⟨w.heap.size + 1 + 1, 0, none⟩ = some (.bool false) ∧ w2.cell? ⟨w.heap.size + 1 + 1, 1, none⟩ = some (.slice none 0 0) := ⟨BR.cell 0, BR.cell 1⟩; obtain ⟨f0, f1⟩ : w2.frozen? ⟨w.heap.size + 1 + 1, 0, none⟩ = false ∧ w2.frozen? ⟨w.heap.size + 1 + 1, 1, none⟩ = false := ⟨BR.frozen 0, BR.frozen 1⟩))
  rw [valL_digs] at S2 ⊢
  unfold RetW
  generalize (na && decide (0 < X - Y)) = sg
  have B2 : Blk _ (w.heap.size + 1 + 1) 126 #[.bool sg, .slice A2 n2 c2] := (BR.set_ 0 (.bool sg)).set_ 1 (.slice A2 n2 c2)
  have HB2 := (HBd.setCell (p := ⟨w.heap.size + 1 + 1, 0, none⟩) (by show w.heap.size ≤ w.heap.size + 1 + 1; omega) (.bool sg)).setCell (p := ⟨w.heap.size + 1 + 1, 1, none⟩) (by show w.heap.size ≤ w.heap.size + 1 + 1; omega) (.slice A2 n2 c2)
  have S3 := (S2.out.store BR (by intro i x; match i with | 0 => simp | 1 => simp | i + 2 => simp) 0 (.bool sg)).store (BR.set_ 0 _) (by intro i x; match i with | 0 => simp | 1 => simp | i + 2 => simp) 1 (.slice A2 n2 c2)
  exact bodyPost_ret (results_cell_row rfl _ _ (w.heap.size + 1 + 1) 126 _ (0, 0) _ rfl B2 Tryz.underlying126 rfl (by kernel_rfl)) rfl ⟨A2, n2, c2, rfl, hc2, S3.more (by simp), HB2⟩
 ·rw [if_neg hXY, if_neg hXY]
  rw [decide_eq_false hXY] at HM
  rw [decide_eq_true (show X ≤ Y by omega)] at HM'
  have hlen := hly
  clear hlx hly hXY
  go_enter Tryz.func134, Tryz.ntmps134
  go_wp2_with (first
   | (go_at_call 146; (with_reducible refine (HM.out _ (S.out.on HBd) (T.out.on HBd)).mono ?_); rintro e w1 ⟨A1, n1, c1, rfl, hc1, S1, hb⟩; clear S1; replace BA := BA.call hb; replace BB := BB.call hb; replace BR := BR.call hb; replace HBd := bl_trans HBd hb; obtain ⟨y0, y1⟩ : w1.cell? ⟨w.heap.size, 0, none⟩ = some (.bool na) ∧ w1.cell? ⟨w.heap.size, 1, none⟩ = some (.slice A n c) := ⟨BA.cell 0, BA.cell 1⟩; obtain ⟨x0, x1⟩ : w1.cell? ⟨w.heap.size + 1, 0, none⟩ = some (.bool nb) ∧ w1.cell? ⟨w.heap.size + 1, 1, none⟩ = some (.slice B m d) := ⟨BB.cell 0, BB.cell 1⟩)
   | (go_at_call 146; (with_reducible refine (HM'.out _ (S.out.on HBd) (T.out.on HBd)).mono ?_); rintro e w2 ⟨A1, n1, c1, rfl, hc1, S1, hb⟩; have S1 := Lib.hid S1; replace BB := BB.call hb; replace BR := BR.call hb; clear BA; replace HBd := bl_trans HBd hb; have hn1 := hlen.out n1 S1.out.1; obtain ⟨y2, y3⟩ : w2.cell? ⟨w.heap.size + 1, 0, none⟩ = some (.bool nb) ∧ w2.cell? ⟨w.heap.size + 1, 1, none⟩ = some (.slice B m d) := ⟨BB.cell 0, BB.cell 1⟩)
   | (go_at_call 126; (with_reducible refine (r2make_calls nb A1 n1 c1 _ w2 S1.out (by omega) hc1).mono ?_); rintro e w3 ⟨A2, n2, c2, rfl, hc2, S2, hb⟩; have S2 := Lib.hid S2; replace BR := BR.call hb; clear BB; replace HBd := bl_trans HBd hb; obtain ⟨z0, z1⟩ : w3.cell? ⟨w.heap.size + 1 + 1, 0, none⟩ = some (.bool false) ∧ w3.cell? ⟨w.heap.size + 1 + 1, 1, none⟩ = some (.slice none 0 0) := ⟨BR.cell 0, BR.cell 1⟩; obtain ⟨f0, f1⟩ : w3.frozen? ⟨w.heap.size + 1 + 1, 0, none⟩ = false ∧ w3.frozen? ⟨w.heap.size + 1 + 1, 1, none⟩ = false := ⟨BR.frozen 0, BR.frozen 1⟩))
  rw [valL_digs] at S2 ⊢
  unfold RetW
  generalize (nb && decide (0 < Y - X)) = sg
  have B2 : Blk _ (w.heap.size + 1 + 1) 126 #[.bool sg, .slice A2 n2 c2] := (BR.set_ 0 (.bool sg)).set_ 1 (.slice A2 n2 c2)
  have HB2 := (HBd.setCell (p := ⟨w.heap.size + 1 + 1, 0, none⟩) (by show w.heap.size ≤ w.heap.size + 1 + 1; omega) (.bool sg)).setCell (p := ⟨w.heap.size + 1 + 1, 1, none⟩) (by show w.heap.size ≤ w.heap.size + 1 + 1; omega) (.slice A2 n2 c2)
  have S3 := (S2.out.store BR (by intro i x; match i with | 0 => simp | 1 => simp | i + 2 => simp) 0 (.bool sg)).store (BR.set_ 0 _) (by intro i x; match i with | 0 => simp | 1 => simp | i + 2 => simp) 1 (.slice A2 n2 c2)
  exact bodyPost_ret (results_cell_row rfl _ _ (w.heap.size + 1 + 1) 126 _ (0, 0) _ rfl B2 Tryz.underlying126 rfl (by kernel_rfl)) rfl ⟨A2, n2, c2, rfl, hc2, S3.more (by simp), HB2⟩
/-- what a function that hands back a signed whole number leaves -/
def RetZ (w : World) (Z : Int) (e : Ending) (w' : World) : Prop := RetW w (decide (Z < 0)) Z.natAbs e w'
theorem retZ_of {w w' : World} {neg : Bool} {N : Nat} {Z : Int} {e : Ending} (h : RetW w neg N e w') (hZ : Z = sgnZ neg N) : RetZ w Z e w' := by
 unfold RetZ
 have hn : Z.natAbs = N := by subst hZ; unfold sgnZ; split <;> omega
 rw [hn]
 refine retW_of h fun h0 => ?_
 subst hZ
 unfold sgnZ
 cases neg <;> simp <;> omega
theorem r2add_calls (na nb : Bool) (A : Option Addr) (n c : Nat) (xs : List Int) (B : Option Addr) (m d : Nat) (ys : List Int) (w : World) (hs : SlU w w.heap.size A n xs) (ht : SlU w w.heap.size B m ys) (hn : n ≤ 10000) (hm : m ≤ 10000) (hc : n ≤ c) (hd : m ≤ d) :
  Calls Tryz.prog 134 #[.agg #[.bool na, .slice A n c], .agg #[.bool nb, .slice B m d]] w (RetZ w (sgnZ na (valL xs) + sgnZ nb (valL ys))) := by
 by_cases hab : na = nb
 ·subst hab
  refine (r2addSame_calls na A n c xs B m d ys w hs ht hn hm hc hd).mono fun e w' h => retZ_of h ?_
  unfold sgnZ
  cases na <;> simp <;> omega
 ·refine (r2addDiff_calls na nb (by simpa using hab) A n c xs B m d ys w hs ht hn hm hc hd).mono fun e w' h => retZ_of h ?_
  by_cases hle : valL ys ≤ valL xs
  ·rw [if_pos hle, if_pos hle]
   unfold sgnZ
   cases na <;> cases nb <;> simp at hab ⊢ <;> omega
  ·rw [if_neg hle, if_neg hle]
   unfold sgnZ
   cases na <;> cases nb <;> simp at hab ⊢ <;> omega
end Go.Proofs.YtagojbgmgkkdpaaGreat.Wk

/- Plain: dyadic numbers (an odd number times a power of two), and their rounding. Nothing of Go. -/
namespace Go.Proofs.YtagojbgmgkkdpaaGreat.Wk
open Go.Proofs.Pl
set_option linter.unusedSimpArgs false
set_option linter.unusedVariables false

/-- a number without its twos -/
def oddN (n : Nat) : Nat := if n = 0 then 0 else if n % 2 = 0 then oddN (n / 2) else n
termination_by n
decreasing_by omega
/-- how many twos it has -/
def twos (n : Nat) : Nat := if n = 0 then 0 else if n % 2 = 0 then twos (n / 2) + 1 else 0
termination_by n
decreasing_by omega
theorem oddN_zero : oddN 0 = 0 := by unfold oddN; rfl
theorem twos_zero : twos 0 = 0 := by unfold twos; rfl
theorem oddN_of {n : Nat} (h : n % 2 = 1) : oddN n = n ∧ twos n = 0 := by
 unfold oddN twos
 rw [if_neg (by omega), if_neg (by omega), if_neg (by omega), if_neg (by omega)]
 exact ⟨rfl, rfl⟩
theorem oddN_two {n : Nat} (h : 0 < n) : oddN (n * 2) = oddN n ∧ twos (n * 2) = twos n + 1 := by
 conv => lhs; lhs; unfold oddN
 conv => rhs; lhs; unfold twos
 rw [if_neg (by omega), if_pos (by omega), if_neg (by omega), if_pos (by omega), Nat.mul_div_cancel _ (by decide)]
 exact ⟨rfl, rfl⟩
theorem oddN_pow {n : Nat} (h : 0 < n) (k : Nat) : oddN (n * 2 ^ k) = oddN n ∧ twos (n * 2 ^ k) = twos n + k := by
 induction k with
 | zero => rw [Nat.pow_zero, Nat.mul_one]; exact ⟨rfl, rfl⟩
 | succ k ih =>
  have h2 : 0 < n * 2 ^ k := Nat.mul_pos h (Nat.pow_pos (by decide))
  have := oddN_two h2
  rw [Nat.pow_succ, ← Nat.mul_assoc, this.1, this.2, ih.1, ih.2]
  exact ⟨rfl, rfl⟩
theorem odd_twos (n : Nat) : oddN n * 2 ^ twos n = n := by
 induction n using Nat.strongRecOn with
 | ind n ih =>
  rcases Nat.eq_zero_or_pos n with h0 | h0
  ·subst h0; rw [oddN_zero, Nat.zero_mul]
  ·rcases Nat.mod_two_eq_zero_or_one n with h | h
   ·obtain ⟨m, rfl⟩ : ∃ m, n = m * 2 := ⟨n / 2, by omega⟩
    have := oddN_two (n := m) (by omega)
    rw [this.1, this.2, Nat.pow_succ, ← Nat.mul_assoc, ih m (by omega)]
   ·rw [(oddN_of h).1, (oddN_of h).2, Nat.pow_zero, Nat.mul_one]
theorem oddN_odd {n : Nat} (h : 0 < n) : oddN n % 2 = 1 := by
 induction n using Nat.strongRecOn with
 | ind n ih =>
  rcases Nat.mod_two_eq_zero_or_one n with h1 | h1
  ·obtain ⟨m, rfl⟩ : ∃ m, n = m * 2 := ⟨n / 2, by omega⟩
   rw [(oddN_two (n := m) (by omega)).1]
   exact ih m (by omega) (by omega)
  ·rw [(oddN_of h1).1]; exact h1
theorem oddN_pos {n : Nat} : 0 < oddN n ↔ 0 < n := by
 rcases Nat.eq_zero_or_pos n with h0 | h0
 ·subst h0; rw [oddN_zero]
 ·have := oddN_odd h0; omega
theorem oddN_le (n : Nat) : oddN n ≤ n := by
 conv => rhs; rw [← odd_twos n]
 exact Nat.le_mul_of_pos_right _ (Nat.pow_pos (by decide))
theorem oddN_odd_ (n : Nat) : oddN (oddN n) = oddN n ∧ twos (oddN n) = 0 := by
 rcases Nat.eq_zero_or_pos n with h0 | h0
 ·subst h0; rw [oddN_zero, oddN_zero, twos_zero]; exact ⟨rfl, rfl⟩
 ·exact oddN_of (oddN_odd h0)
theorem twos_lt {n b : Nat} (h : n < 2 ^ b) : twos n ≤ b := by
 rcases Nat.eq_zero_or_pos n with h0 | h0
 ·subst h0; rw [twos_zero]; omega
 ·have h1 := odd_twos n
  have h2 := oddN_pos.2 h0
  rcases Nat.lt_or_ge b (twos n) with hb | hb
  ·have h3 := Nat.pow_le_pow_right (show 0 < 2 by decide) (show b ≤ twos n by omega)
   have h4 := Nat.mul_le_mul_right (2 ^ twos n) h2
   rw [h1] at h4
   omega
  ·exact hb
/-- the exponent, once its number is odd -/
def dyE (n : Nat) (e : Int) : Int := if n = 0 then 0 else e + twos n
theorem dyE_zero (e : Int) : dyE 0 e = 0 := if_pos rfl
theorem dyE_pos {n : Nat} (h : 0 < n) (e : Int) : dyE n e = e + twos n := if_neg (by omega)
theorem dy_pow (n k : Nat) (e : Int) : oddN (n * 2 ^ k) = oddN n ∧ dyE (n * 2 ^ k) e = dyE n (e + k) := by
 rcases Nat.eq_zero_or_pos n with h0 | h0
 ·subst h0; rw [Nat.zero_mul]; exact ⟨rfl, by rw [dyE_zero, dyE_zero]⟩
 ·have h2 : 0 < n * 2 ^ k := Nat.mul_pos h0 (Nat.pow_pos (by decide))
  obtain ⟨h3, h4⟩ := oddN_pow h0 k
  refine ⟨h3, ?_⟩
  rw [dyE_pos h2, dyE_pos h0, h4]
  omega
theorem dy_dy (n : Nat) (e : Int) : oddN (oddN n) = oddN n ∧ dyE (oddN n) (dyE n e) = dyE n e := by
 refine ⟨(oddN_odd_ n).1, ?_⟩
 rcases Nat.eq_zero_or_pos n with h0 | h0
 ·subst h0; rw [oddN_zero, dyE_zero, dyE_zero]
 ·rw [dyE_pos (oddN_pos.2 h0), (oddN_odd_ n).2]
  omega
/-- rounding does not see the way a number is written -/
theorem round_pow (n : Bool) (s k : Nat) (e : Int) (up : Bool) : roundAt n (s * 2 ^ k) e up = roundAt n s (e + k) up := by
 rcases Nat.eq_zero_or_pos s with h0 | h0
 ·subst h0; rw [Nat.zero_mul]; rfl
 ·have h2 : 0 < s * 2 ^ k := Nat.mul_pos h0 (Nat.pow_pos (by decide))
  obtain ⟨l1, l2⟩ := log_le (s := s) (by omega)
  have hl : (s * 2 ^ k).log2 = s.log2 + k := by
   refine (log_of ?_ ?_).2
   ·rw [Nat.pow_add]; exact Nat.mul_le_mul_right _ l1
   ·rw [show s.log2 + k + 1 = s.log2 + 1 + k by omega, Nat.pow_add]
    exact Nat.mul_lt_mul_of_pos_right l2 (Nat.pow_pos (by decide))
  unfold roundAt
  rw [if_neg (show ¬ s * 2 ^ k = 0 by omega), if_neg (show ¬ s = 0 by omega), hl]
  generalize s.log2 = L
  by_cases a : L + k < 63
  ·rw [if_pos a, if_pos (by omega), Nat.mul_assoc, ← Nat.pow_add, show k + (63 - (L + k)) = 63 - L by omega]
   congr 1
   omega
  ·rw [if_neg a]
   by_cases b : L < 63
   ·rw [if_pos b]
    have hs : s * 2 ^ k = s * 2 ^ (63 - L) * 2 ^ (L + k - 63) := by rw [Nat.mul_assoc, ← Nat.pow_add, show 63 - L + (L + k - 63) = k by omega]
    rw [hs, Nat.mul_div_cancel _ (Nat.pow_pos (by decide)), Nat.mul_mod_left]
    simp only [ne_eq, not_true_eq_false, decide_false]
    congr 1
    omega
   ·rw [if_neg b]
    have hp : (2 : Nat) ^ (L + k - 63) = 2 ^ (L - 63) * 2 ^ k := by rw [← Nat.pow_add, show L - 63 + k = L + k - 63 by omega]
    have hk : 0 < 2 ^ k := Nat.pow_pos (by decide)
    rw [hp, Nat.mul_div_mul_right _ _ hk, Nat.mul_mod_mul_right]
    have hz : decide (s % 2 ^ (L - 63) * 2 ^ k ≠ 0) = decide (s % 2 ^ (L - 63) ≠ 0) := by
     rw [decide_eq_decide]
     constructor
     ·intro h g; rw [g, Nat.zero_mul] at h; exact h rfl
     ·intro h g
      exact h ((Nat.mul_eq_zero.1 g).resolve_right (by omega))
    rw [hz]
    congr 1
    omega
theorem round_dy (n : Bool) (s : Nat) (e : Int) (up : Bool) : roundAt n (oddN s) (dyE s e) up = roundAt n s e up := by
 rcases Nat.eq_zero_or_pos s with h0 | h0
 ·subst h0; rw [oddN_zero]; rfl
 ·conv => rhs; rw [← odd_twos s]
  rw [round_pow, dyE_pos h0]
/-- the document's rounding of an odd number -/
theorem round_odd (n : Bool) (s : Nat) (e : Int) (up : Bool) (h : s % 2 = 1) :
  (blen s ≤ 64 → roundAt n s e up = boundN n ((s * 2 ^ (64 - blen s) : Nat) : Int) (e + blen s - 64) (up != n) ∧ s * 2 ^ (64 - blen s) < 18446744073709551616) ∧
  (64 < blen s → s / 2 ^ (blen s - 64) < 18446744073709551616 ∧ 9223372036854775808 ≤ s / 2 ^ (blen s - 64) ∧ roundAt n s e up = if (up != n) = true then (if s / 2 ^ (blen s - 64) = 18446744073709551615 then boundN n 9223372036854775808 (e + blen s - 64 + 1) true else boundN n ((s / 2 ^ (blen s - 64) + 1 : Nat) : Int) (e + blen s - 64) true) else boundN n ((s / 2 ^ (blen s - 64) : Nat) : Int) (e + blen s - 64) false) := by
 have h0 : s ≠ 0 := by omega
 obtain ⟨l1, l2⟩ := log_le h0
 have hb : blen s = s.log2 + 1 := by unfold blen; rw [if_neg h0]
 have e63 : (2 : Nat) ^ 63 = 9223372036854775808 := by decide
 have e64 : (2 : Nat) ^ 64 = 18446744073709551616 := by decide
 rw [hb]
 refine ⟨fun hl => ?_, fun hl => ?_⟩
 ·have hlt : s * 2 ^ (64 - (s.log2 + 1)) < 18446744073709551616 := by
   have := Nat.mul_lt_mul_of_pos_right l2 (Nat.pow_pos (n := 64 - (s.log2 + 1)) (show 0 < 2 by decide))
   rw [← Nat.pow_add, show s.log2 + 1 + (64 - (s.log2 + 1)) = 64 from by omega, e64] at this
   exact this
  refine ⟨?_, hlt⟩
  unfold roundAt growN
  rw [if_neg h0]
  by_cases a : s.log2 < 63
  ·rw [if_pos a, show 64 - (s.log2 + 1) = 63 - s.log2 by omega]
   simp only [Bool.false_and, Bool.false_eq_true, if_false]
   congr 1
   omega
  ·rw [if_neg a, show s.log2 = 63 by omega]
   simp only [Nat.sub_self, Nat.pow_zero, Nat.div_one, Nat.mod_one, ne_eq, not_true_eq_false, decide_false, Bool.false_and, Bool.false_eq_true, if_false, Nat.mul_one]
   congr 1
   omega
 ·obtain ⟨k, hk⟩ : ∃ k, s.log2 + 1 - 64 = k + 1 := ⟨s.log2 + 1 - 65, by omega⟩
  have hk' : s.log2 - 63 = k + 1 := by omega
  have hP : 0 < 2 ^ (k + 1) := Nat.pow_pos (by decide)
  have hL : s.log2 = 63 + (k + 1) := by omega
  rw [hL, Nat.pow_add, e63] at l1
  rw [hL, show 63 + (k + 1) + 1 = 64 + (k + 1) from by omega, Nat.pow_add, e64] at l2
  have h1 := (Nat.le_div_iff_mul_le hP).2 l1
  have h2 := (Nat.div_lt_iff_lt_mul hP).2 l2
  have hr : decide (s % 2 ^ (k + 1) ≠ 0) = true := by
   refine decide_eq_true fun hz => ?_
   have := Nat.mod_mod_of_dvd s (show 2 ∣ 2 ^ (k + 1) from ⟨2 ^ k, by rw [Nat.pow_succ, Nat.mul_comm]⟩)
   rw [hz] at this
   omega
  rw [hk]
  refine ⟨h2, h1, ?_⟩
  unfold roundAt growN
  rw [if_neg h0, if_neg (by omega), hk', hr]
  have ee : e + ((k + 1 : Nat) : Int) = e + ((s.log2 + 1 : Nat) : Int) - 64 := by omega
  rw [ee]
  cases hup : (up != n)
  ·simp
  ·simp only [Bool.and_self, if_true]
   by_cases hm : s / 2 ^ (k + 1) = 18446744073709551615
   ·rw [if_pos (by omega), if_pos hm]
   ·rw [if_neg (by omega), if_neg hm]
    rfl
end Go.Proofs.YtagojbgmgkkdpaaGreat.Wk

/- Walks: the reference's dyadic numbers: even, Make. -/
namespace Go.Proofs.YtagojbgmgkkdpaaGreat.Wk
open Go.RowKit Go.Proofs.Pl Go.Proofs.YtagojbgmgkkdpaaGreatW.PrintLast
set_option linter.unusedSimpArgs false
set_option linter.unusedVariables false

set_option maxRecDepth 100000 in
set_option maxHeartbeats 4000000 in
theorem r3even_calls (A : Option Addr) (n c : Nat) (xs : List Int) (w : World) (hs : SlU w w.heap.size A n xs) (hn : n ≤ 50000) (hc : n ≤ c) :
  Calls Tryz.prog 141 #[.slice A n c] w fun e w' => e = .returned (.bool (decide (0 < n ∧ valL xs % 2 = 0))) ∧ w' = w := by
 rcases Nat.eq_zero_or_pos n with h0 | h0
 ·subst h0
  go_enter Tryz.func141, Tryz.ntmps141
  go_wp2
  go_ret
  exact ⟨by simp, rfl⟩
 ·obtain ⟨b, off, x, rfl, hbB, hx, ⟨x0, x1⟩, e0⟩ := hs.at_ (k := 0) h0
  have hv : Hid ((x % 2 == 0) = decide (0 < n ∧ valL xs % 2 = 0)) := Lib.hid (by
   have h1 := valL_split xs 0
   rw [limb_in hx] at h1
   simp [valL] at h1
   have : (x % 2 = 0) ↔ (0 < n ∧ valL xs % 2 = 0) := by omega
   by_cases h : x % 2 = 0
   ·rw [decide_eq_true (this.1 h)]; simp [h]
   ·rw [decide_eq_false (fun g => h (this.2 g))]; simp [h])
  clear hx hs
  rw [← hv.out]
  clear hv
  rw [Nat.add_zero] at e0
  go_enter Tryz.func141, Tryz.ntmps141
  go_wp2
  go_ret
  exact ⟨by rfl, rfl⟩

theorem noU2 (a : Bool) (A : Option Addr) (n c : Nat) (i : Nat) (x : Int) : (#[Value.bool a, .slice A n c] : Array Value)[i]? ≠ some (.int .u32 x) := by
 match i with
 | 0 => simp
 | 1 => simp
 | i + 2 => simp
theorem noU3 (a : Bool) (A : Option Addr) (n c : Nat) (z : Int) (i : Nat) (x : Int) : (#[Value.bool a, .slice A n c, .int .i64 z] : Array Value)[i]? ≠ some (.int .u32 x) := by
 match i with
 | 0 => simp
 | 1 => simp
 | 2 => simp
 | i + 3 => simp
/-- what a function that hands back a dyadic number leaves -/
def RetDy (w : World) (neg : Bool) (N : Nat) (e : Int) (en : Ending) (w' : World) : Prop := ∃ A n c, en = .returned (.agg #[.bool (neg && decide (0 < N)), .slice A n c, .int .i64 (dyE N e)]) ∧ n ≤ c ∧ SlU w' w'.heap.size A n (digs (oddN N)) ∧ Below w.heap.size w w'
set_option maxRecDepth 100000 in
set_option maxHeartbeats 4000000 in
theorem r3make_calls (neg : Bool) (A : Option Addr) (n c : Nat) (xs : List Int) (e : Int) (w : World) (hs : SlU w w.heap.size A n xs) (hn : n ≤ 4000) (hc : n ≤ c) (he : -1000000 ≤ e) (he2 : e ≤ 1000000) :
  Calls Tryz.prog 125 #[.agg #[.bool neg, .slice A n c], .int .i64 e] w (RetDy w neg (valL xs) e) := by
 have hlt : valL xs < 2 ^ (32 * n) := by rw [← pow32, ← hs.1]; exact valL_lt hs.2.1
 have htw := twos_lt hlt
 have HMk := Lib.hid (fun W h => r2make_calls neg A n c xs W h (by omega) hc)
 have S := Lib.hid hs
 have Hlt := Lib.hid hlt
 clear hs hlt
 generalize valL xs = N at HMk htw Hlt ⊢
 have hlen : ∀ M n', M ≤ N → (digs M).length = n' → n' ≤ 4000 := fun M n' hM h => by
  rw [← h]
  refine Nat.le_trans (digs_len (k := n) ?_) hn
  rw [pow32]
  have := Hlt.out
  omega
 replace hlen := Lib.hid hlen
 clear Hlt
 have BR : Blk _ (w.heap.size + 1) 128 #[.bool false, .slice none 0 0, .int .i64 0] := Blk.new1 w (.cells #[.bool neg, .slice A n c] 126) _ _
 have HBd := (bl_alloc (bl_alloc (Below.refl w.heap.size w) (.cells #[.bool neg, .slice A n c] 126)) (.cells #[.bool false, .slice none 0 0, .int .i64 0] 128))
 rcases Nat.eq_zero_or_pos N with hN | hN
 ·subst hN
  have hd0 : RetDy w neg 0 e = fun en w' => ∃ A n c, en = .returned (.agg #[.bool false, .slice A n c, .int .i64 0]) ∧ n ≤ c ∧ SlU w' w'.heap.size A n [] ∧ Below w.heap.size w w' := by
   unfold RetDy
   rw [oddN_zero, digs_zero]
   simp [dyE_zero]
  rw [hd0]
  clear hd0 htw
  go_enter Tryz.func125, Tryz.ntmps125
  go_wp2_with (go_at_call 126; (with_reducible refine (HMk.out _ (S.out.on HBd)).mono ?_); rintro e1 w1 ⟨A1, n1, c1, rfl, hc1, S1, hb⟩; obtain rfl : n1 = 0 := (by rw [digs_zero] at S1; exact S1.1.symm); replace BR := BR.call hb; replace HBd := bl_trans HBd hb; obtain ⟨z0, z1, z2⟩ : w1.cell? ⟨w.heap.size + 1, 0, none⟩ = some (.bool false) ∧ w1.cell? ⟨w.heap.size + 1, 1, none⟩ = some (.slice none 0 0) ∧ w1.cell? ⟨w.heap.size + 1, 2, none⟩ = some (.int .i64 0) := ⟨BR.cell 0, BR.cell 1, BR.cell 2⟩; obtain ⟨f0, f1, f2⟩ : w1.frozen? ⟨w.heap.size + 1, 0, none⟩ = false ∧ w1.frozen? ⟨w.heap.size + 1, 1, none⟩ = false ∧ w1.frozen? ⟨w.heap.size + 1, 2, none⟩ = false := ⟨BR.frozen 0, BR.frozen 1, BR.frozen 2⟩; have hlt1 := BR.lt)
  have B2 := (((BR.set_ 0 (.bool false)).set_ 1 (.slice none 0 0)).set_ 2 (.int .i64 0)).alloc (.cells #[.bool false, .slice A1 0 c1] 126)
  have HB2 := bl_alloc (((HBd.setCell (p := ⟨w.heap.size + 1, 0, none⟩) (by show w.heap.size ≤ w.heap.size + 1; omega) (.bool false)).setCell (p := ⟨w.heap.size + 1, 1, none⟩) (by show w.heap.size ≤ w.heap.size + 1; omega) (.slice none 0 0)).setCell (p := ⟨w.heap.size + 1, 2, none⟩) (by show w.heap.size ≤ w.heap.size + 1; omega) (.int .i64 0)) (.cells #[.bool false, .slice A1 0 c1] 126)
  exact bodyPost_ret (results_cell_row rfl _ _ (w.heap.size + 1) 128 _ (0, 0) _ rfl B2 Tryz.underlying128 rfl (by kernel_rfl)) rfl ⟨none, 0, 0, rfl, Nat.le_refl _, SlU.nil _ _ _, HB2⟩
 ·unfold RetW at HMk
  rw [decide_eq_true hN, Bool.and_true] at HMk
  go_enter Tryz.func125, Tryz.ntmps125
  go_wp2_with (go_at_call 126; (with_reducible refine (HMk.out _ (S.out.on HBd)).mono ?_); rintro e1 w1 ⟨A1, n1, c1, rfl, hc1, S1, hb⟩;  have hn0 := (digs_none N S1.1).2 hN; have hne : ((n1 : Int) == 0) = false := (by simp; omega); have hn1 := hlen.out N n1 (Nat.le_refl _) S1.1; replace S1 := Lib.hid S1; replace BR := BR.call hb; replace HBd := bl_trans HBd hb; have hlt1 := BR.lt)
  have BX : Blk _ w1.heap.size 126 #[.bool neg, .slice A1 n1 c1] := Blk.new w1 _ _
  replace BR := BR.alloc (.cells #[.bool neg, .slice A1 n1 c1] 126)
  replace HBd := bl_alloc HBd (.cells #[.bool neg, .slice A1 n1 c1] 126)
  have S2 := Lib.hid (S1.out.on (bl_alloc (Below.refl w1.heap.size w1) (.cells #[.bool neg, .slice A1 n1 c1] 126)))
  clear S1 HMk hne S
  generalize hW : w1.heap.size = g at BX hlt1
  generalize w1.alloc (.cells #[.bool neg, .slice A1 n1 c1] 126) = w2 at BX BR HBd S2
  clear hW hb
  go_loopw [1, 6, 7] (fun ev iv _ wr => ∃ (k M : Nat) (A2 : Option Addr) (n2 c2 : Nat), ev = .int .i64 (e + k) ∧ iv = .int .i64 k ∧ M * 2 ^ k = N ∧ n2 ≤ c2 ∧ SlU wr wr.heap.size A2 n2 (digs M) ∧ Blk wr g 126 #[.bool neg, .slice A2 n2 c2] ∧ Blk wr (w.heap.size + 1) 128 #[.bool false, .slice none 0 0, .int .i64 0] ∧ Below w.heap.size w wr) (fun _ i _ _ => 128001 - (intOf i).toNat)
  case atStart => exact ⟨0, N, A1, n1, c1, by simp, rfl, by simp, hc1, S2.out, BX, BR, HBd⟩
  case round =>
   obtain ⟨k, M, A2, n2, c2, rfl, rfl, hMN, hc2, S2, BX, BR, HBd⟩ := hrel
   have hM0 : 0 < M := Nat.pos_of_ne_zero (by rintro rfl; rw [Nat.zero_mul] at hMN; omega)
   have hk2 := (oddN_pow hM0 k).2
   have hO := (oddN_pow hM0 k).1
   have hn2 := hlen.out M n2 (by rw [← hMN]; exact Nat.le_mul_of_pos_right _ (Nat.pow_pos (by decide))) S2.1
   have hn20 := (digs_none M S2.1).2 hM0
   rw [hMN] at hk2 hO
   have hk : k ≤ 128000 := by omega
   replace hk2 := Lib.hid hk2
   have HE := Lib.hid (r3even_calls A2 n2 c2 (digs M) wr S2 (by omega) hc2)
   replace hO := Lib.hid hO
   replace hMN := Lib.hid hMN
   replace S2 := Lib.hid S2
   replace hM0 := Lib.hid hM0
   replace hN := Lib.hid hN
   replace htw := Lib.hid htw
   clear hc hn
   obtain ⟨kk, hkk⟩ : ∃ kk : Int, kk = k := ⟨_, rfl⟩
   have hk0 : 0 ≤ kk := by omega
   have hk1 : kk ≤ 128000 := by omega
   rw [← hkk]
   replace hkk := Lib.hid hkk
   clear hk
   have hlg := BX.lt
   have hlr := BR.lt
   obtain ⟨z0, z1⟩ : wr.cell? ⟨g, 0, none⟩ = some (.bool neg) ∧ wr.cell? ⟨g, 1, none⟩ = some (.slice A2 n2 c2) := ⟨BX.cell 0, BX.cell 1⟩
   rcases Nat.mod_two_eq_zero_or_one M with hM | hM
   ·rw [show decide (0 < n2 ∧ valL (digs M) % 2 = 0) = true from decide_eq_true ⟨hn20, by rw [valL_digs]; exact hM⟩] at HE
    replace hM := Lib.hid hM
    go_wp2_with (go_at_call 141; (with_reducible refine HE.out.mono ?_); rintro e1 w3 ⟨rfl, hww⟩; obtain rfl := hww.symm)
    have HS := Lib.hid (fun W h => r1shr_calls A2 n2 c2 1 (digs M) W h hn2 hc2 (by decide))
    rw [valL_digs, Nat.pow_one, show (((1 : Nat) : Int)) = 1 from rfl] at HS
    obtain ⟨f0, f1⟩ : wr.frozen? ⟨g, 0, none⟩ = false ∧ wr.frozen? ⟨g, 1, none⟩ = false := ⟨BX.frozen 0, BX.frozen 1⟩
    replace BX := BX.drew
    replace BR := BR.drew
    replace HBd := bl_drew HBd
    refine start_ (n := 7) (S := fun w' => w'.cell? ⟨g, 0, none⟩ = some (.bool neg) ∧ w'.cell? ⟨g, 1, none⟩ = some (.slice A2 n2 c2)) (ds := [6]) (bq 7 0) (by kernel_rfl) rfl rfl ⟨BX.cell 0, BX.cell 1⟩ (fun hHeld => ?_)
    refine pure_ (i := 0) (N := some 35) (v := ?_) (a' := ?_) (bq 7 1) rfl rfl (by kernel_rfl) (fun _ _ _ h => h) (Or.inl ⟨by rfl, ?_⟩) ?_ ?_
    rotate_left
    ·intro w'
     go_simp
     with_reducible rfl
    rotate_left
    ·simp only [Act.put, pA, pB, pC]
     rfl
    refine take_ (i := 1) (N := some 36) (v := ?_) (a' := ?_) (bq 7 3) rfl rfl (by kernel_rfl) (fun _ _ _ h => h) (Or.inl ⟨by rfl, ?_⟩) hHeld ?_ ?_
    rotate_left
    ·rintro w' ⟨s0_, s1_⟩
     go_simp
     with_reducible rfl
    rotate_left
    ·simp only [Act.put, pA, pB, pC]
     rfl
    refine pure_ (i := 2) (N := some 37) (v := ?_) (a' := ?_) (bq 7 7) rfl rfl (by kernel_rfl) (fun _ _ _ h => h) (Or.inl ⟨by rfl, ?_⟩) ?_ ?_
    rotate_left
    ·intro w'
     go_simp
     with_reducible rfl
    rotate_left
    ·simp only [Act.put, pA, pB, pC]
     rfl
    refine take_ (i := 3) (N := some 38) (v := ?_) (a' := ?_) (bq 7 15) rfl rfl (by kernel_rfl) (fun _ _ _ h => h) (Or.inl ⟨by rfl, ?_⟩) hHeld ?_ ?_
    rotate_left
    ·rintro w' ⟨s0_, s1_⟩
     go_simp
     with_reducible rfl
    rotate_left
    ·simp only [Act.put, pA, pB, pC]
     rfl
    refine one_ (i := 4) (N := some 39) (bq 7 31) rfl rfl (by kernel_rfl) (by decide) (fun K hK => ?_)
    refine goes_ Tryz.func132 (by kernel_rfl) rfl #[.slice A2 n2 c2, .int .i64 1] (by first | rfl | go_simp) rfl rfl (by simp only [List.map_toArray, List.map_cons, List.map_nil] <;> rfl) ?_
    with_reducible refine (HS.out _ (S2.out.on (bl_drew (Below.refl _ _)))).mono ?_
    rintro e w3 ⟨A3, n3, c3, rfl, hc3, S3, hb⟩
    refine ⟨_, rfl, ?_⟩
    have S3 := Lib.hid S3
    have BX := BX.call hb
    have BR := BR.call hb
    have HBd := bl_trans HBd hb
    obtain ⟨f0, f1⟩ : w3.frozen? ⟨g, 0, none⟩ = false ∧ w3.frozen? ⟨g, 1, none⟩ = false := ⟨BX.frozen 0, BX.frozen 1⟩
    refine hK.out _ _ ⟨BX.cell 0, BX.cell 1⟩ (fun hHeld => ?_)
    clear hK K hb
    refine norm_ (a' := ?_) ?_ ?_
    rotate_left
    ·show Act.put _ (some 39) _ = _
     simp only [Act.put, pA, pB, pC]
     rfl
    refine pure_ (i := 5) (N := some 40) (v := ?_) (a' := ?_) (bq 7 63) rfl rfl (by kernel_rfl) (fun _ _ _ h => h) (Or.inl ⟨by rfl, ?_⟩) ?_ ?_
    rotate_left
    ·intro w'
     go_simp
     with_reducible rfl
    rotate_left
    ·simp only [Act.put, pA, pB, pC]
     rfl
    refine last_ (i := 6) (N := none) (bq 7 127) rfl rfl (by kernel_rfl) (by decide) (fun K hK => ?_)
    refine skip_ (w1 := ?_) (by rfl) rfl ?_ ?_
    rotate_left
    ·go_simp
     rfl
    refine hK.out _ _ ?_
    clear hK K
    refine done_ (by kernel_rfl) ?_
    go_wp2_with fail
    have S4 := (S3.out.store BX (noU2 _ _ _ _) 0 (.bool neg)).store (BX.set_ 0 _) (noU2 _ _ _ _) 1 (.slice A3 n3 c3)
    have hh : M / 2 * 2 ^ (k + 1) = N := by
     rw [Nat.pow_succ, Nat.mul_comm _ 2, ← Nat.mul_assoc, Nat.div_mul_cancel (Nat.dvd_of_mod_eq_zero hM.out)]
     exact hMN.out
    have hq := hkk.out
    have hlw : w.heap.size + 1 ≠ g := by omega
    refine ⟨⟨k + 1, M / 2, A3, n3, c3, by rw [hq]; simp; omega, by rw [hq]; simp, hh, hc3, S4.more (by simp), (BX.set_ 0 (.bool neg)).set_ 1 (.slice A3 n3 c3), (BR.far hlw _).far hlw _, (HBd.setCell (p := ⟨g, 0, none⟩) (by show w.heap.size ≤ g; omega) _).setCell (p := ⟨g, 1, none⟩) (by show w.heap.size ≤ g; omega) _⟩, by simp [intOf]; omega⟩
   ·rw [show decide (0 < n2 ∧ valL (digs M) % 2 = 0) = false from decide_eq_false (by rw [valL_digs]; omega)] at HE
    replace hM := Lib.hid hM
    obtain ⟨y0, y1, y2⟩ : wr.cell? ⟨w.heap.size + 1, 0, none⟩ = some (.bool false) ∧ wr.cell? ⟨w.heap.size + 1, 1, none⟩ = some (.slice none 0 0) ∧ wr.cell? ⟨w.heap.size + 1, 2, none⟩ = some (.int .i64 0) := ⟨BR.cell 0, BR.cell 1, BR.cell 2⟩
    obtain ⟨f0, f1, f2⟩ : wr.frozen? ⟨w.heap.size + 1, 0, none⟩ = false ∧ wr.frozen? ⟨w.heap.size + 1, 1, none⟩ = false ∧ wr.frozen? ⟨w.heap.size + 1, 2, none⟩ = false := ⟨BR.frozen 0, BR.frozen 1, BR.frozen 2⟩
    go_wp2_with (go_at_call 141; (with_reducible refine HE.out.mono ?_); rintro e1 w3 ⟨rfl, hww⟩; obtain rfl := hww.symm)
    have B2 := (((BR.set_ 0 (.bool neg)).set_ 1 (.slice A2 n2 c2)).set_ 2 (.int .i64 (e + kk)))
    have HB2 := (((HBd.setCell (p := ⟨w.heap.size + 1, 0, none⟩) (by show w.heap.size ≤ w.heap.size + 1; omega) (.bool neg)).setCell (p := ⟨w.heap.size + 1, 1, none⟩) (by show w.heap.size ≤ w.heap.size + 1; omega) (.slice A2 n2 c2)).setCell (p := ⟨w.heap.size + 1, 2, none⟩) (by show w.heap.size ≤ w.heap.size + 1; omega) (.int .i64 (e + kk)))
    have S3 := ((S2.out.store BR (noU3 _ _ _ _ _) 0 (.bool neg)).store (BR.set_ 0 _) (noU3 _ _ _ _ _) 1 (.slice A2 n2 c2)).store ((BR.set_ 0 _).set_ 1 _) (noU3 _ _ _ _ _) 2 (.int .i64 (e + kk))
    have hE : e + kk = dyE N e := by
     have := hk2.out
     have := (oddN_of hM.out).2
     have := hkk.out
     rw [dyE_pos hN.out]
     omega
    unfold RetDy
    rw [← hE, hO.out, (oddN_of hM.out).1, decide_eq_true hN.out, Bool.and_true]
    exact bodyPost_ret (results_cell_row rfl _ _ (w.heap.size + 1) 128 _ (0, 0) _ rfl B2 Tryz.underlying128 rfl (by kernel_rfl)) rfl ⟨A2, n2, c2, rfl, hc2, S3.more (by simp), HB2⟩
end Go.Proofs.YtagojbgmgkkdpaaGreat.Wk
