import Derived.Test.YtagojbgmgkkdpaaGreatMLa
import Derived.Test.YtagojbgmgkkdpaaGreatArP
/- Walks: the reference's Len, Shl of limbs. -/
namespace Go.Proofs.YtagojbgmgkkdpaaGreat.Wk
open Go.RowKit Go.Proofs.Pl Go.Proofs.YtagojbgmgkkdpaaGreatW.PrintLast
set_option linter.unusedSimpArgs false
set_option linter.unusedVariables false

/-- how many bits a number has -/
def blen (n : Nat) : Nat := if n = 0 then 0 else n.log2 + 1
theorem blen_zero : blen 0 = 0 := rfl
theorem blen_half {n : Nat} (h : n ≠ 0) : blen n = blen (n / 2) + 1 := by
 unfold blen
 rw [if_neg h]
 by_cases h2 : n / 2 = 0
 ·rw [if_pos h2]
  have : n = 1 := by omega
  subst this
  decide
 ·rw [if_neg h2]
  obtain ⟨a, b⟩ := log_le h2
  have : n.log2 = (n / 2).log2 + 1 := (log_of (by rw [Nat.pow_succ]; omega) (by rw [Nat.pow_succ] at b ⊢; omega)).2
  omega
theorem blen_le {n k : Nat} (h : n < 2 ^ k) : blen n ≤ k := by
 unfold blen
 split
 ·exact Nat.zero_le _
 ·next h0 => have := (Nat.log2_lt h0).2 h; omega
theorem pow32 (k : Nat) : 4294967296 ^ k = 2 ^ (32 * k) := by rw [Nat.pow_mul]
theorem blen_digs {N k : Nat} {d : Int} (h : (digs N)[k]? = some d) (hk : (digs N).length = k + 1) : blen N = 32 * k + blen d.toNat := by
 have e : N = valL ((digs N).take k) + 4294967296 ^ k * d.toNat := by
  have h1 := valL_take_succ h
  rw [List.take_of_length_le (by omega), valL_digs] at h1
  exact h1
 have hl := valL_lt ((digs_lim N).take k)
 rw [List.length_take, Nat.min_eq_left (by omega)] at hl
 have hd0 : d ≠ 0 := digs_top N d (by rw [List.getLast?_eq_getElem?, hk]; exact h)
 have hd := digs_lim N d (List.mem_of_getElem? h)
 have hn : d.toNat ≠ 0 := by omega
 generalize valL ((digs N).take k) = r at e hl
 obtain ⟨a, b⟩ := log_le hn
 unfold blen
 rw [if_neg hn]
 have hm1 := Nat.mul_le_mul_left (4294967296 ^ k) a
 have hm2 := Nat.mul_le_mul_left (4294967296 ^ k) (show d.toNat + 1 ≤ 2 ^ (d.toNat.log2 + 1) by omega)
 rw [Nat.mul_add, Nat.mul_one] at hm2
 have hN := log_of (s := N) (k := 32 * k + d.toNat.log2) (by rw [Nat.pow_add, ← pow32]; omega) (by rw [Nat.add_assoc, Nat.pow_add, ← pow32]; omega)
 rw [if_neg hN.1, hN.2]
 omega
set_option maxRecDepth 100000 in
set_option maxHeartbeats 4000000 in
theorem r1len_calls (A : Option Addr) (n c : Nat) (xs : List Int) (w : World) (hs : SlU w w.heap.size A n xs) (hn : n ≤ 50000) (hc : n ≤ c) :
  Calls Tryz.prog 128 #[.slice A n c] w fun e w' => e = .returned (.int .i64 (blen (valL xs))) ∧ Below w.heap.size w w' := by
 have HT := Lib.hid (r1trim_calls A n c xs w hs (by omega) hc)
 have lp : (digs (valL xs)).length ≤ 50000 := Nat.le_trans (digs_len (k := n) (by have := valL_lt hs.2.1; rw [hs.1] at this; exact this)) hn
 generalize valL xs = p at HT lp ⊢
 have Lp := Lib.hid lp
 clear hs lp
 go_enter Tryz.func128, Tryz.ntmps128
 go_wp2_with (go_at_call 142; (refine HT.out.mono ?_); rintro e w1 ⟨A1, n1, c1, rfl, hc1, S1, HB1⟩; have S1 := Lib.hid S1; have hn1 : n1 ≤ 50000 := by { rw [← S1.out.1]; exact Lp.out }; rcases (show n1 = 0 ∨ ∃ j, n1 = j + 1 by cases n1 <;> simp) with rfl | ⟨j, rfl⟩ <;> first
  | (obtain ⟨b, off, x, rfl, hbB, hx, ⟨x0, x1⟩, e0⟩ := S1.out.at_ (k := j) (by omega); have ej : (((j + 1 : Nat) : Int) - 1) = j := by omega)
  | skip)
 ·go_ret
  have h0 : p = 0 := by rw [← valL_digs p, List.eq_nil_of_length_eq_zero S1.out.1]; rfl
  exact ⟨by rw [h0]; rfl, HB1⟩
 have hb := Lib.hid (blen_digs hx S1.out.1)
 clear hx
 have hT : Hid (32 * j + blen x.toNat ≤ 2000000) := Lib.hid (by have := blen_le (n := x.toNat) (k := 32) (by omega); omega)
 generalize hTT : 32 * j + blen x.toNat = T at hb hT
 have HT0 := Lib.hid hTT
 clear hTT
 go_loopw [4, 5] (fun s t wr => ∃ (q l : Nat), s = .int .i64 l ∧ t = .int .u32 q ∧ q < 4294967296 ∧ l + blen q = T ∧ wr = w1) (fun _ t _ => (intOf t).toNat)
 case atStart => exact ⟨x.toNat, 32 * j, by go_num, by rw [Int.toNat_of_nonneg x0], by omega, HT0.out, rfl⟩
 case round =>
  obtain ⟨q, l, rfl, rfl, hq, hl, rfl⟩ := hrel
  have Hl := Lib.hid hl
  have hlT := hT.out
  have hl2 : l ≤ 2000000 := by omega
  clear hl hlT
  by_cases h0 : q = 0
  ·subst h0
   go_wp2
   go_ret
   exact ⟨by rw [hb.out, ← Hl.out]; rfl, HB1⟩
  ·have h0' : 0 < q := by omega
   go_wp2
   refine ⟨⟨q / 2, l + 1, by go_num, by go_num, by omega, ?_, by trivial⟩, by simp [intOf]; omega⟩
   have := blen_half h0
   have := Hl.out
   omega
theorem madeU (m : Nat) : (madeCells #[.int .u32 0] m).toList = List.replicate m (.int .u32 0) := by
 unfold madeCells
 rw [Array.toList_map, List.eq_replicate_iff]
 refine ⟨by simp, fun b hb => ?_⟩
 obtain ⟨i, _, rfl⟩ := List.mem_map.1 hb
 simp [Nat.mod_one]
theorem one_shl (s : Nat) : 0 ≤ (2 : Int) ^ (s % 32) % 4294967296 ∧ (2 : Int) ^ (s % 32) % 4294967296 < 4294967296 ∧ ((2 : Int) ^ (s % 32) % 4294967296).toNat = 2 ^ (s % 32) := by
 have h : 2 ^ (s % 32) < 4294967296 := by
  have : 2 ^ (s % 32) < 2 ^ 32 := Nat.pow_lt_pow_right (by decide) (Nat.mod_lt _ (by decide))
  simpa using this
 have e : (2 : Int) ^ (s % 32) = ((2 ^ (s % 32) : Nat) : Int) := by simp
 rw [e]
 generalize 2 ^ (s % 32) = p at h ⊢
 omega
section
variable {ops : Array Oper} {o : Oper} {a : Act} {Q : Exit → Act → World → Prop} {w : World}
theorem wpList_makeU {rest : List Oper} (hgd : o.guard = none) (x y : Operand) (ho : o.op = .makeSlice 124 x y) (n : Nat) (hx : a.eval x = .int .i64 n) (hy : a.eval y = .int .i64 n) (hn : n ≤ 1000000) (base : Nat) (hb : base ≤ w.heap.size)
  (h : ∀ W1, OwnU W1 base (.slice (some ⟨w.heap.size, 0, none⟩) n n) (List.replicate n 0) → Below w.heap.size w W1 → wpList Tryz.prog ops Q rest (a.put o.dst (.slice (some ⟨w.heap.size, 0, none⟩) n n)) W1) : wpList Tryz.prog ops Q (o :: rest) a w :=
 wpList_plain hgd fun _ hK => by
  obtain ⟨i0, hi, hz0, hz1, hz2⟩ := info_parts infoU
  have hr := run_make (P := Tryz.prog) w 124 117 i0 _ Tryz.underlying124 hi hz0 .i64 .i64 n n (by omega) (by omega) (by rw [hz2]; omega) (by omega)
  simp only [Int.toNat_natCast] at hr
  unfold Oper.wp execOp
  simp only [ho, hx, hy, Sem.run_bind, hr, Result.andThen_ok]
  refine hK _ _ (h _ ⟨by simp [flatU], .inr ⟨w.heap.size, n, _, by simp, hb, Blk.new w _ _, by simp, by simp only [maxLen]; omega, ?_, ?_⟩⟩ ((Below.refl _ _).alloc (Nat.le_refl _) _))
  ·rw [size_madeCells, hz1]
  ·have e : (Value.int IntKind.u32 0).cells = #[.int .u32 0] := rfl
   rw [e, hz1, Nat.mul_one, madeU]
   simp [flatU]
end
set_option maxRecDepth 100000 in
set_option maxHeartbeats 4000000 in
theorem r1shl_calls (A : Option Addr) (n c s : Nat) (xs : List Int) (w : World) (hs : SlU w w.heap.size A n xs) (hn : n ≤ 5000) (hc : n ≤ c) (hsb : s ≤ 100000) :
  Calls Tryz.prog 131 #[.slice A n c, .int .i64 s] w (RetU w (valL xs * 2 ^ s)) := by
 rcases Nat.eq_zero_or_pos s with h0 | h0
 ·subst h0
  have HT := Lib.hid (r1trim_calls A n c xs w hs (by omega) hc)
  rw [Nat.pow_zero, Nat.mul_one]
  clear hs
  go_enter Tryz.func131, Tryz.ntmps131
  go_wp2_with (go_at_call 142; (refine HT.out.mono ?_); rintro e w1 ⟨A1, n1, c1, rfl, hc1, S1, HB1⟩)
  go_ret
  exact ⟨A1, n1, c1, rfl, hc1, S1, HB1⟩
 ·have Hs := Lib.hid hs
  clear hs
  go_enter Tryz.func131, Tryz.ntmps131
  have hq : Hid ((s : Int) / 32 = ((s / 32 : Nat) : Int)) := Lib.hid (by omega)
  have hsb2 : s / 32 ≤ 4000 := by omega
  go_wp2_with (first
   | (refine wpList_makeU rfl (.tmp 14) (.tmp 14) rfl (s / 32) (congrArg (Value.int .i64) hq.out) (congrArg (Value.int .i64) hq.out) (by omega) w.heap.size (Nat.le_refl _) ?_; intro w1 O1 HB1)
   | (at_builtin; refine wpList_appU rfl (.tmp 16) (.tmp 17) rfl w.heap.size _ _ rfl O1 w.heap.size A n c xs rfl (Hs.out.below HB1) (by simp; omega) HB1.size ?_; intro v2 w2 O2 hg2 hat2; have HB2 := (HB1.grown hg2 HB1.size (fun k hk => (O1.lt k hk).1)); obtain ⟨A2, c2, rfl, hc2, S2⟩ := O2.sln (n := s / 32 + n) (Lim.app (Lim.zeros _) Hs.out.2.1) (by rw [List.length_append, List.length_replicate, Hs.out.1]); have S2 := Lib.hid S2; clear O1 O2 hg2 hat2))
  have hone := one_shl s
  have H0 := hone.1
  have H1 := hone.2.1
  have hM := r1mul_calls A2 (s / 32 + n) c2 _ (some ⟨w2.heap.size, 0, none⟩) 1 1 [_] (w2.alloc (.cells #[.int .u32 (2 ^ (s % 32) % 4294967296)] 117)) (S2.out.on (bl_alloc (Below.refl _ _) _)) (SlU.lit1 (Blk.new w2 _ _) H0 H1 (by simp)) (by omega) (by omega) hc2 (Nat.le_refl _)
  refine hM.mono ?_
  rintro e w3 ⟨A3, n3, c3, rfl, hc3, S3, hb⟩
  have S3 := Lib.hid S3
  clear hM hone H0 H1
  go_wp2
  go_ret
  refine ⟨A3, n3, c3, rfl, hc3, ?_, bl_trans (bl_alloc HB2 _) hb⟩
  have hN : valL (List.replicate (s / 32) 0 ++ xs) * valL [(2 : Int) ^ (s % 32) % 4294967296] = valL xs * 2 ^ s := by
   rw [valL_app, valL_zeros, List.length_replicate, Nat.zero_add, pow32]
   simp only [valL, Nat.mul_zero, Nat.add_zero]
   rw [(one_shl s).2.2, Nat.mul_right_comm, ← Nat.pow_add, Nat.div_add_mod, Nat.mul_comm]
  rw [← hN]
  exact S3.out
end Go.Proofs.YtagojbgmgkkdpaaGreat.Wk

/- Walks: the reference's bit, set of limbs. -/
namespace Go.Proofs.YtagojbgmgkkdpaaGreat.Wk
open Go.RowKit Go.Proofs.Pl Go.Proofs.YtagojbgmgkkdpaaGreatW.PrintLast
set_option linter.unusedSimpArgs false
set_option linter.unusedVariables false

theorem limb_div {xs : List Int} (h : Lim xs) (i : Nat) : (limb xs (i / 32)).toNat / 2 ^ (i % 32) % 2 = valL xs / 2 ^ i % 2 := by
 have e : valL xs = valL (xs.take (i / 32)) + 4294967296 ^ (i / 32) * ((limb xs (i / 32)).toNat + 4294967296 * valL (xs.drop (i / 32 + 1))) := by
  rcases Nat.lt_or_ge (i / 32) xs.length with hk | hk
  ·have h1 : xs[i / 32]? = some xs[i / 32] := List.getElem?_eq_getElem hk
   have h2 := valL_drop h1
   rw [limb_in h1, ← h2]
   conv => lhs; rw [← List.take_append_drop (i / 32) xs]
   rw [valL_app, List.length_take, Nat.min_eq_left (by omega)]
  ·rw [limb_out hk, List.take_of_length_le hk, List.drop_eq_nil_of_le (by omega)]
   simp [valL]
 have hl := valL_lt (h.take (i / 32))
 have hl2 : valL (xs.take (i / 32)) < 4294967296 ^ (i / 32) := Nat.lt_of_lt_of_le hl (Nat.pow_le_pow_right (by decide) (by rw [List.length_take]; omega))
 generalize valL (xs.take (i / 32)) = r at e hl2
 generalize valL (xs.drop (i / 32 + 1)) = g at e
 generalize (limb xs (i / 32)).toNat = m at e ⊢
 have hp : (2 : Nat) ^ i = 4294967296 ^ (i / 32) * 2 ^ (i % 32) := by rw [pow32, ← Nat.pow_add, Nat.div_add_mod]
 have hP : 0 < 4294967296 ^ (i / 32) := Nat.pow_pos (by decide)
 rw [hp, ← Nat.div_div_eq_div_mul, e, Nat.add_mul_div_left _ _ hP, Nat.div_eq_of_lt hl2, Nat.zero_add]
 have hr : i % 32 < 32 := Nat.mod_lt _ (by decide)
 have e2 : (4294967296 : Nat) = 2 ^ (i % 32) * (2 * 2 ^ (31 - i % 32)) := by
  rw [← Nat.pow_succ', ← Nat.pow_add, show i % 32 + (31 - i % 32).succ = 32 by omega]
 have e3 : m + 4294967296 * g = m + 2 ^ (i % 32) * ((2 * 2 ^ (31 - i % 32)) * g) := by
  conv => lhs; rw [e2]
  rw [Nat.mul_assoc]
 rw [e3, Nat.add_mul_div_left _ _ (Nat.pow_pos (by decide)), Nat.mul_assoc]
 omega
set_option maxRecDepth 100000 in
set_option maxHeartbeats 4000000 in
theorem r1bit_calls (A : Option Addr) (n c i : Nat) (xs : List Int) (w : World) (hs : SlU w w.heap.size A n xs) (hn : n ≤ 100000) (hi : i ≤ 1000000) :
  Calls Tryz.prog 158 #[.slice A n c, .int .i64 i] w fun e w' => e = .returned (.bool (decide (valL xs / 2 ^ i % 2 = 1))) ∧ w' = w := by
 have hq : ((i : Int) / 32) = ((i / 32 : Nat) : Int) := by omega
 have HA := r1at_calls A n c (i / 32) xs w hs hn (by omega)
 rw [← hq] at HA
 have HA := Lib.hid HA
 have hd := limb_div hs.2.1 i
 obtain ⟨x0, x1⟩ := limb_lim hs.2.1 (i / 32)
 generalize limb xs (i / 32) = x at HA hd x0 x1
 rw [← hd]
 clear hs hq hd
 go_enter Tryz.func158, Tryz.ntmps158
 go_wp2_with (go_at_call 145; (refine HA.out.mono ?_); rintro e w1 ⟨rfl, hw⟩; obtain rfl := hw.symm)
 go_ret
 refine ⟨congrArg (fun b => Ending.returned (.bool b)) ?_, rfl⟩
 obtain ⟨m, rfl⟩ := Int.eq_ofNat_of_zero_le x0
 have e : ((m : Int) / 2 ^ (i % 32)) = ((m / 2 ^ (i % 32) : Nat) : Int) := by simp
 rw [e, Int.toNat_natCast]
 generalize m / 2 ^ (i % 32) = z
 rw [Int.tmod_eq_emod_of_nonneg (by omega), Bool.eq_iff_iff, decide_eq_true_iff, beq_iff_eq]
 omega
end Go.Proofs.YtagojbgmgkkdpaaGreat.Wk

/- Walk: the reference's set of limbs. -/
namespace Go.Proofs.YtagojbgmgkkdpaaGreat.Wk
open Go.RowKit Go.Proofs.Pl Go.Proofs.YtagojbgmgkkdpaaGreatW.PrintLast
set_option linter.unusedSimpArgs false
set_option linter.unusedVariables false

def lenU : Value → Nat
 | .slice _ n _ => n
 | _ => 0
theorem flatU_set (xs : List Int) (i : Nat) (y : Int) : flatU (xs.set i y) = (flatU xs).set i (.int .u32 y) := by simp [flatU]
/-- one limb stored in a row of the call's own -/
theorem OwnU.setc {w : World} {base g n c : Nat} {xs : List Int} (h : OwnU w base (.slice (some ⟨g, 0, none⟩) n c) xs) (i : Nat) (y : Int) (hi : i < xs.length) : OwnU (w.setCell ⟨g, i, none⟩ (.int .u32 y)) base (.slice (some ⟨g, 0, none⟩) n c) (xs.set i y) := by
 refine ⟨by simp [flatU], ?_⟩
 rcases h.2 with ⟨h0, _⟩ | ⟨g', cap, cur, he, hb, hg, h1, h2, h3, h4⟩
 ·cases h0
 ·cases he
  refine .inr ⟨g, c, _, by rw [List.length_set], hb, Blk.set_ hg i _, by rw [List.length_set]; exact h1, h2, by simp [h3], ?_⟩
  rw [List.length_set, flatU_set, ← h4]
  simp [List.take_set]
theorem OwnU.blkn {w : World} {base n : Nat} {v : Value} {xs : List Int} (h : OwnU w base v xs) (hn : xs.length = n) (h0 : 0 < n) : ∃ g cap cur, v = .slice (some ⟨g, 0, none⟩) n cap ∧ base ≤ g ∧ Blk w g 117 cur ∧ n ≤ cap ∧ (∀ (i : Nat) (x : Int), xs[i]? = some x → w.cell? ⟨g, i, none⟩ = some (.int .u32 x) ∧ w.frozen? ⟨g, i, none⟩ = false) := by
 subst hn
 rcases h.2 with ⟨rfl, hn⟩ | ⟨g, cap, cur, rfl, hb, hg, h1, h2, h3, h4⟩
 ·omega
 ·refine ⟨g, cap, cur, rfl, hb, hg, h1, fun i x hx => ⟨?_, Blk.frozen hg i⟩⟩
  have hi : i < xs.length := (List.getElem?_eq_some_iff.1 hx).1
  rw [Blk.cell hg i, ← Array.getElem?_toList]
  have : (flatU xs)[i]? = some (.int .u32 x) := by simp [flatU, hx]
  rw [← h4, List.getElem?_take, if_pos (by omega)] at this
  exact this
theorem valL_set {xs : List Int} {i : Nat} {x y : Int} (hx : xs[i]? = some x) (h0 : 0 ≤ x) (hy : x ≤ y) : valL (xs.set i y) = valL xs + 4294967296 ^ i * (y - x).toNat := by
 induction xs generalizing i with
 | nil => simp at hx
 | cons a l ih =>
  cases i with
  | zero =>
   simp at hx
   subst hx
   simp only [List.set_cons_zero, valL, Nat.pow_zero, Nat.one_mul]
   omega
  | succ i =>
   simp only [List.set_cons_succ, valL, ih (by simpa using hx), Nat.pow_succ]
   rw [Nat.mul_add, Nat.mul_right_comm, Nat.mul_comm (4294967296 ^ i * _)]
   omega
theorem valL_split (xs : List Int) (q : Nat) : valL xs = valL (xs.take q) + 4294967296 ^ q * ((limb xs q).toNat + 4294967296 * valL (xs.drop (q + 1))) := by
 rcases Nat.lt_or_ge q xs.length with hk | hk
 ·have h1 : xs[q]? = some xs[q] := List.getElem?_eq_getElem hk
  have h2 := valL_drop h1
  rw [limb_in h1, ← h2]
  conv => lhs; rw [← List.take_append_drop q xs]
  rw [valL_app, List.length_take, Nat.min_eq_left (by omega)]
 ·rw [limb_out hk, List.take_of_length_le hk, List.drop_eq_nil_of_le (by omega)]
  simp [valL]
/-- a bit that is free may be set -/
theorem limb_mod {xs : List Int} (h : Lim xs) {i : Nat} {x : Int} (hm : valL xs % 2 ^ (i + 1) = 0) (hx : xs[i / 32]? = some x) :
  (0 ≤ (x + 2 ^ (i % 32)) % 4294967296 ∧ (x + 2 ^ (i % 32)) % 4294967296 < 4294967296) ∧ x ≤ (x + 2 ^ (i % 32)) % 4294967296 ∧ ((x + 2 ^ (i % 32)) % 4294967296 - x).toNat = 2 ^ (i % 32) := by
 have hl : valL (xs.take (i / 32)) < 4294967296 ^ (i / 32) := Nat.lt_of_lt_of_le (valL_lt (h.take (i / 32))) (Nat.pow_le_pow_right (by decide) (by rw [List.length_take]; omega))
 have hd : valL xs / 4294967296 ^ (i / 32) = (limb xs (i / 32)).toNat + 4294967296 * valL (xs.drop (i / 32 + 1)) := by
  conv => lhs; rw [valL_split xs (i / 32)]
  rw [Nat.add_mul_div_left _ _ (Nat.pow_pos (by decide)), Nat.div_eq_of_lt hl, Nat.zero_add]
 have hp : (2 : Nat) ^ (i + 1) = 4294967296 ^ (i / 32) * 2 ^ (i % 32 + 1) := by rw [pow32, ← Nat.pow_add]; congr 1; omega
 rw [hp, Nat.mod_mul, hd, limb_in hx] at hm
 have hr : i % 32 < 32 := Nat.mod_lt _ (by decide)
 have e2 : (4294967296 : Nat) = 2 ^ (i % 32 + 1) * 2 ^ (31 - i % 32) := by
  rw [← Nat.pow_add, show i % 32 + 1 + (31 - i % 32) = 32 by omega]
 have hP : 0 < 4294967296 ^ (i / 32) := Nat.pow_pos (by decide)
 have hz : (x.toNat + 4294967296 * valL (xs.drop (i / 32 + 1))) % 2 ^ (i % 32 + 1) = 0 := by
  rcases Nat.eq_zero_or_pos ((x.toNat + 4294967296 * valL (xs.drop (i / 32 + 1))) % 2 ^ (i % 32 + 1)) with h0 | h0
  ·exact h0
  ·have := Nat.mul_le_mul hP h0
   omega
 have hz2 : x.toNat % 2 ^ (i % 32 + 1) = 0 := by
  have e3 : x.toNat + 4294967296 * valL (xs.drop (i / 32 + 1)) = x.toNat + 2 ^ (i % 32 + 1) * (2 ^ (31 - i % 32) * valL (xs.drop (i / 32 + 1))) := by
   conv => lhs; rw [e2]
   rw [Nat.mul_assoc]
  rw [e3, Nat.add_mul_mod_self_left] at hz
  exact hz
 obtain ⟨x0, x1⟩ := h x (List.mem_of_getElem? hx)
 have hk := Nat.div_add_mod x.toNat (2 ^ (i % 32 + 1))
 rw [hz2, Nat.add_zero] at hk
 have hlt : x.toNat / 2 ^ (i % 32 + 1) < 2 ^ (31 - i % 32) := Nat.div_lt_of_lt_mul (by rw [← e2]; omega)
 have hle := Nat.mul_le_mul_left (2 ^ (i % 32 + 1)) (show x.toNat / 2 ^ (i % 32 + 1) + 1 ≤ 2 ^ (31 - i % 32) by omega)
 rw [← e2, Nat.mul_add, hk, Nat.mul_one, Nat.pow_succ] at hle
 have ep : (2 : Int) ^ (i % 32) = ((2 ^ (i % 32) : Nat) : Int) := by simp
 have hpos : 0 < 2 ^ (i % 32) := Nat.pow_pos (by decide)
 rw [ep]
 generalize 2 ^ (i % 32) = t at hle hpos ⊢
 omega
set_option maxRecDepth 100000 in
set_option maxHeartbeats 4000000 in
theorem r1set_calls (A : Option Addr) (n c i : Nat) (xs : List Int) (w : World) (hs : SlU w w.heap.size A n xs) (hn : n ≤ 10000) (hc : n ≤ c) (hi : i ≤ 160000) (hm : valL xs % 2 ^ (i + 1) = 0) :
  Calls Tryz.prog 159 #[.slice A n c, .int .i64 i] w fun e w' => ∃ A' n' c' L, e = .returned (.slice A' n' c') ∧ n' ≤ c' ∧ n' ≤ max n (i / 32 + 1) ∧ SlU w' w'.heap.size A' n' L ∧ valL L = valL xs + 2 ^ i ∧ Below w.heap.size w w' := by
 have Hs := Lib.hid hs
 have Hm := Lib.hid hm
 clear hs hm
 go_enter Tryz.func159, Tryz.ntmps159
 go_wp2_with (at_builtin; refine wpList_appU rfl (.const (.slice none 0 0)) (.tmp 6) rfl w.heap.size (.slice none 0 0) [] rfl (OwnU.nil _ _) w.heap.size A n c xs rfl Hs.out (by simp; omega) (Nat.le_refl _) ?_; intro v1 w1 O1 hg1 hat1)
 have HB1 : Below w.heap.size w w1 := (Below.refl _ w).grown hg1 (Nat.le_refl _) (fun k hk => by cases hk)
 rw [List.nil_append] at O1
 have O1 := Lib.hid O1
 clear hg1 hat1
 go_loopw [5] (fun v wr => ∃ L : List Int, OwnU wr w.heap.size v L ∧ Lim L ∧ valL L = valL xs ∧ L.length ≤ max n (i / 32 + 1) ∧ Below w.heap.size w wr) (fun v _ => i / 32 + 1 - lenU v)
 case atStart => exact ⟨xs, O1.out, Hs.out.2.1, rfl, by rw [Hs.out.1]; omega, HB1⟩
 case round =>
  obtain ⟨L, O, hLim, hval, hlen, HB⟩ := hrel
  obtain ⟨A1, c1, rfl, hc1, S1⟩ := O.sl hLim
  have O := Lib.hid O
  have HLim := Lib.hid hLim
  have Hval := Lib.hid hval
  have S1 := Lib.hid S1
  have Hlen := Lib.hid hlen
  clear hLim hval hlen
  have hll : L.length ≤ 20000 := by have := Hlen.out; omega
  obtain ⟨l, hl⟩ : ∃ l, L.length = l := ⟨_, rfl⟩
  have Hl := Lib.hid hl
  rw [hl] at hc1 hll ⊢
  rw [hl] at O S1 Hlen
  clear hl
  by_cases hlt : l ≤ i / 32
  ·have hlt' : (l : Int) ≤ (i : Int) / 32 := by omega
   go_wp2_with (at_builtin; refine wpList_appU rfl (.tmp 13) (.tmp 14) rfl w.heap.size _ L rfl (O.out.alloc _) (wr.heap.size + 1) (some ⟨wr.heap.size, 0, none⟩) 1 1 [0] rfl (SlU.lit1 (Blk.new wr _ _) (by decide) (by decide) (by omega)) (by rw [Hl.out]; omega) (by have := HB.size; simp; omega) ?_; intro v3 w3 O3 hg3 hat3)
   obtain ⟨A3, c3, rfl, hc3, S3⟩ := O3.sln (n := l + 1) (HLim.out.app (Lim.one (by decide) (by decide))) (by rw [List.length_append, Hl.out]; rfl)
   refine ⟨⟨L ++ [0], O3, HLim.out.app (Lim.one (by decide) (by decide)), by rw [valL_snoc, Hval.out]; simp, by rw [List.length_append, Hl.out]; simp; omega, (HB.alloc HB.size _).grown hg3 (by have := HB.size; simp; omega) (fun k hk => (O.out.lt k hk).1)⟩, by simp [lenU]; omega⟩
  ·have hlt' : ¬ (l : Int) ≤ (i : Int) / 32 := by omega
   obtain ⟨g, cap, cur, E, hgb, hgB, hlc, hcells⟩ := O.out.blkn Hl.out (by omega)
   cases E
   have hiL : i / 32 < L.length := by rw [Hl.out]; omega
   obtain ⟨cx, cf⟩ := hcells (i / 32) L[i / 32] (List.getElem?_eq_getElem hiL)
   have hx := Lib.hid (List.getElem?_eq_getElem hiL)
   obtain ⟨x0, x1⟩ := HLim.out L[i / 32] (List.getElem_mem hiL)
   generalize L[i / 32] = x at cx hx x0 x1
   have hil : i / 32 < l := by omega
   clear hcells
   have hov := limb_mod HLim.out (by rw [Hval.out]; exact Hm.out) hx.out
   obtain ⟨v0, v1', v2⟩ := hov
   replace v0 := Lib.hid v0
   replace v1' := Lib.hid v1'
   replace v2 := Lib.hid v2
   go_wp2_with fail
   have O4 := O.out.setc (i / 32) ((x + 2 ^ (i % 32)) % 4294967296) hiL
   have hS := valL_set hx.out x0 v1'.out
   have hSum : valL (L.set (i / 32) ((x + 2 ^ (i % 32)) % 4294967296)) = valL xs + 2 ^ i := by
    rw [hS, Hval.out, v2.out, pow32, ← Nat.pow_add, Nat.div_add_mod]
   have hLS : Lim (L.set (i / 32) ((x + 2 ^ (i % 32)) % 4294967296)) := fun d hd => by
    rcases List.mem_or_eq_of_mem_set hd with h | h
    ·exact HLim.out d h
    ·rw [h]; exact v0.out
   have hl5 : (L.set (i / 32) ((x + 2 ^ (i % 32)) % 4294967296)).length = l := by rw [List.length_set, Hl.out]
   have HBf := HB.setCell (p := ⟨g, i / 32, none⟩) hgb (.int .u32 ((x + 2 ^ (i % 32)) % 4294967296))
   generalize L.set (i / 32) ((x + 2 ^ (i % 32)) % 4294967296) = L5 at O4 hSum hLS hl5
   obtain ⟨A5, c5, E5, hc5, S5⟩ := O4.sln hLS hl5
   cases E5
   go_ret
   exact ⟨_, _, _, rfl, hc1, Hlen.out, L5, S5, hSum, HBf⟩
end Go.Proofs.YtagojbgmgkkdpaaGreat.Wk

/- Walks: the reference's Div, Shr of limbs. -/
namespace Go.Proofs.YtagojbgmgkkdpaaGreat.Wk
open Go.RowKit Go.Proofs.Pl Go.Proofs.YtagojbgmgkkdpaaGreatW.PrintLast
set_option linter.unusedSimpArgs false
set_option linter.unusedVariables false

theorem half_pow (N j : Nat) : N / 2 ^ j = 2 * (N / 2 ^ (j + 1)) + N / 2 ^ j % 2 := by
 rw [Nat.pow_succ, ← Nat.div_div_eq_div_mul]
 omega
theorem low_pow {Q j : Nat} (h : Q % 2 ^ (j + 1) = 0) : Q % 2 ^ j = 0 ∧ Q / 2 ^ j = 2 * (Q / 2 ^ (j + 1)) := by
 rw [Nat.pow_succ, Nat.mod_mul] at h
 have hP : 0 < 2 ^ j := Nat.pow_pos (by decide)
 have h1 : Q / 2 ^ j % 2 = 0 := by
  rcases Nat.eq_zero_or_pos (Q / 2 ^ j % 2) with h0 | h0
  ·exact h0
  ·have := Nat.mul_le_mul hP h0
   omega
 refine ⟨by omega, ?_⟩
 have := half_pow Q j
 omega
theorem div_bit {N Q D R j : Nat} (h : N / 2 ^ (j + 1) = Q / 2 ^ (j + 1) * D + R) (hR : R < D) (hQ : Q % 2 ^ (j + 1) = 0) :
  (D ≤ 2 * R + N / 2 ^ j % 2 → N / 2 ^ j = (Q + 2 ^ j) / 2 ^ j * D + (2 * R + N / 2 ^ j % 2 - D) ∧ 2 * R + N / 2 ^ j % 2 - D < D ∧ (Q + 2 ^ j) % 2 ^ j = 0) ∧
  (2 * R + N / 2 ^ j % 2 < D → N / 2 ^ j = Q / 2 ^ j * D + (2 * R + N / 2 ^ j % 2) ∧ Q % 2 ^ j = 0) := by
 obtain ⟨q1, q2⟩ := low_pow hQ
 have hn := half_pow N j
 have hP : 0 < 2 ^ j := Nat.pow_pos (by decide)
 have hb : N / 2 ^ j % 2 < 2 := Nat.mod_lt _ (by decide)
 have hd : (Q + 2 ^ j) / 2 ^ j = Q / 2 ^ j + 1 := Nat.add_div_right _ hP
 rw [hd, q2, Nat.add_mod_right]
 generalize N / 2 ^ j % 2 = b at hn hb ⊢
 generalize N / 2 ^ j = a at hn ⊢
 rw [h] at hn
 rw [Nat.add_mul, Nat.one_mul, Nat.mul_assoc]
 generalize Q / 2 ^ (j + 1) * D = t at hn ⊢
 refine ⟨fun hD => ⟨by omega, by omega, q1⟩, fun hD => ⟨by omega, q1⟩⟩
theorem div_end {N Q D R : Nat} (h : N = Q * D + R) (hR : R < D) : N / D = Q ∧ N % D = R := by
 subst h
 have hD : 0 < D := by omega
 rw [Nat.mul_comm Q D]
 exact ⟨by rw [Nat.mul_add_div hD, Nat.div_eq_of_lt hR, Nat.add_zero], by rw [Nat.mul_add_mod, Nat.mod_eq_of_lt hR]⟩
theorem blen_lt (n : Nat) : n < 2 ^ blen n := by
 unfold blen
 split
 ·next h => subst h; decide
 ·next h => exact (log_le h).2
def RetD (w : World) (N D : Nat) (e : Ending) (w' : World) : Prop := ∃ A1 n1 c1 A2 n2 c2, e = .returned (.tuple #[.slice A1 n1 c1, .slice A2 n2 c2, .bool true]) ∧ n1 ≤ c1 ∧ n2 ≤ c2 ∧ SlU w' w'.heap.size A1 n1 (digs (N / D)) ∧ SlU w' w'.heap.size A2 n2 (digs (N % D)) ∧ Below w.heap.size w w'
set_option maxRecDepth 100000 in
set_option maxHeartbeats 4000000 in
theorem r1div_calls (A : Option Addr) (n c : Nat) (xs : List Int) (B : Option Addr) (m d : Nat) (ys : List Int) (w : World) (hs : SlU w w.heap.size A n xs) (ht : SlU w w.heap.size B m ys) (hn : n ≤ 4000) (hm : m ≤ 4000) (hc : n ≤ c) (hd : m ≤ d) (hD : 0 < valL ys) :
  Calls Tryz.prog 144 #[.slice A n c, .slice B m d] w (RetD w (valL xs) (valL ys)) := by
 have HT := Lib.hid (r1trim_calls B m d ys w ht (by omega) hd)
 have HL := Lib.hid (fun W h => r1len_calls A n c xs W h (by omega) hc)
 have hbl : blen (valL xs) ≤ 32 * n := blen_le (by rw [← pow32, ← hs.1]; exact valL_lt hs.2.1)
 have hDm : valL ys < 4294967296 ^ m := by rw [← ht.1]; exact valL_lt ht.2.1
 have S := Lib.hid hs
 generalize hN : valL xs = N at HL hbl ⊢
 generalize valL ys = D at HT hD hDm ⊢
 have HN := Lib.hid hN
 have HDm := Lib.hid hDm
 clear hs ht hN hDm
 have hd1 : ∀ n1, (digs D).length = n1 → n1 ≤ m ∧ 0 < n1 := fun n1 h => by
  rw [← h]
  exact ⟨digs_len HDm.out, by rw [digs_pos (by omega)]; simp⟩
 have hd1 := Lib.hid hd1
 go_enter Tryz.func144, Tryz.ntmps144
 go_wp2_with (first
  | (go_at_call 142; (refine HT.out.mono ?_); rintro e w1 ⟨A1, n1, c1, rfl, hc1, S1, HB1⟩; have S1 := Lib.hid S1; obtain ⟨hn1, hn0⟩ := hd1.out n1 S1.out.1)
  | (go_at_call 128; (refine (HL.out w1 (S.out.on HB1)).mono ?_); rintro e w2 ⟨rfl, hb⟩; have HB2 := bl_trans HB1 hb; have S1 := Lib.hid (S1.out.on hb); clear hb))
 generalize hk0 : blen N = k0 at hbl
 have Hk0 := Lib.hid hk0
 clear HT HL hk0
 go_loopw [8, 9, 10, 11, 12, 13] (fun q r i _ _ _ wr => ∃ (k : Nat) (QA : Option Addr) (qn qc : Nat) (L : List Int) (RA : Option Addr) (rn rc R : Nat), k ≤ k0 ∧ i = .int .i64 ((k : Int) - 1) ∧ q = .slice QA qn qc ∧ r = .slice RA rn rc ∧ qn ≤ qc ∧ rn ≤ rc ∧ qn ≤ n ∧ SlU wr wr.heap.size QA qn L ∧ SlU wr wr.heap.size RA rn (digs R) ∧ valL L % 2 ^ k = 0 ∧ R < D ∧ N / 2 ^ k = valL L / 2 ^ k * D + R ∧ Below w2.heap.size w2 wr) (fun _ _ i _ _ _ _ => (intOf i + 1).toNat)
 case atStart => exact ⟨k0, none, 0, 0, [], none, 0, 0, 0, Nat.le_refl _, by go_num, rfl, rfl, Nat.le_refl _, Nat.le_refl _, Nat.zero_le _, SlU.nil _ _ _, by rw [digs_zero]; exact SlU.nil _ _ _, by simp [valL], hD, by rw [Nat.div_eq_of_lt (by rw [← Hk0.out]; exact blen_lt N)]; simp [valL], Below.refl _ _⟩
 case round =>
  obtain ⟨k, QA, qn, qc, L, RA, rn, rc, R, hk, rfl, rfl, rfl, hqc, hrc, hqn, SQ, SR, hmod, hR, hdiv, HB⟩ := hrel
  have SQ := Lib.hid SQ
  have SR := Lib.hid SR
  have Hmod := Lib.hid hmod
  have Hdiv := Lib.hid hdiv
  clear hmod hdiv
  rcases Nat.eq_zero_or_pos k with h0 | h0
  ·subst h0
   have hE := div_end (N := N) (Q := valL L) (D := D) (R := R) (by have := Hdiv.out; simpa using this) hR
   have hE := Lib.hid hE
   have hrn : rn ≤ 4000 := by
    rw [← SR.out.1]
    exact Nat.le_trans (digs_len (k := m) (by have := HDm.out; omega)) hm
   have HT1 := Lib.hid (r1trim_calls QA qn qc L wr SQ.out (by omega) hqc)
   have HT2 := Lib.hid (fun W h => r1trim_calls RA rn rc (digs R) W h (by omega) hrc)
   rw [valL_digs] at HT2
   go_wp2_with (first
    | (go_at_call 142; (with_reducible refine HT1.out.mono ?_); rintro e w3 ⟨A3, n3, c3, rfl, hc3, S3, hb3⟩; have S3 := Lib.hid S3; have SR3 := Lib.hid (SR.out.on hb3))
    | (go_at_call 142; (with_reducible refine (HT2.out w3 SR3.out).mono ?_); rintro e w4 ⟨A4, n4, c4, rfl, hc4, S4, hb4⟩))
   refine bodyPost_ret (v := .tuple #[.slice A3 n3 c3, .slice A4 n4 c4, .bool true]) (by simp [results, Tryz.results144, go_sem]) rfl ?_
   exact ⟨A3, n3, c3, A4, n4, c4, rfl, hc3, hc4, by rw [hE.out.1]; exact S3.out.on hb4, by rw [hE.out.2]; exact S4, bl_trans HB2 (bl_trans HB (bl_trans hb3 hb4))⟩
  ·obtain ⟨j, rfl⟩ : ∃ j, k = j + 1 := ⟨k - 1, by omega⟩
   have hrn : rn ≤ 4000 := by
    rw [← SR.out.1]
    exact Nat.le_trans (digs_len (k := m) (by have := HDm.out; omega)) hm
   have ej : (((j + 1 : Nat) : Int) - 1) = j := by omega
   rw [ej]
   have hD2 := Lib.hid (div_bit (j := j) Hdiv.out hR Hmod.out)
   have HA1 := Lib.hid (r1add_calls RA rn rc _ RA rn rc _ wr SR.out SR.out (by omega) (by omega))
   rw [valL_digs] at HA1
   have HBt := Lib.hid (fun W h => r1bit_calls A n c j xs W h (by omega) (by omega))
   have hlen : ∀ (z n' : Nat), z ≤ 2 * R + 1 → (digs z).length = n' → n' ≤ 4001 := fun z n' hz h => by
    rw [← h]
    refine Nat.le_trans (digs_len (k := m + 1) ?_) (by omega)
    have := HDm.out
    rw [Nat.pow_succ]
    omega
   have hlen := Lib.hid hlen
   rw [HN.out] at HBt
   have hb2 := Lib.hid (Nat.mod_lt (N / 2 ^ j) (show 0 < 2 by decide))
   generalize N / 2 ^ j % 2 = bt at HBt hD2 hb2
   have HSt := Lib.hid (fun W h => r1set_calls QA qn qc j L W h (by omega) hqc (by omega) Hmod.out)
   have SX := Lib.hid (S.out.on (bl_trans HB2 HB))
   have SD := Lib.hid (S1.out.on HB)
   have hjn : j / 32 + 1 ≤ n := by omega
   rcases (show bt = 0 ∨ bt = 1 by have := hb2.out; omega) with rfl | rfl
   ·rw [show decide ((0 : Nat) = 1) = false from rfl] at HBt
    by_cases hge : D ≤ R + R
    ·go_wp2_with (first
     | (go_at_call 133; (with_reducible refine HA1.out.mono ?_); rintro e w3 ⟨A3, n3, c3, rfl, hc3, S3, hb3⟩; have S3 := Lib.hid S3; have SX3 := Lib.hid (SX.out.on hb3); have SD3 := Lib.hid (SD.out.on hb3); have SQ3 := Lib.hid (SQ.out.on hb3); have HB3 := Lib.hid (bl_trans HB hb3); have hn3 := hlen.out _ _ (by omega) S3.out.1; have HSb := Lib.hid (r1sub_calls A3 n3 c3 _ A1 n1 c1 _ w3 S3.out SD3.out (by omega) (by omega) hc3 hc1); unfold RetS at HSb; rw [valL_digs, valL_digs] at HSb)
     | (go_at_call 158; (refine (HBt.out w3 SX3.out).mono ?_); rintro e wx ⟨rfl, hw⟩; obtain rfl := hw.symm)
     | (go_at_call 146; (refine HSb.out.mono ?_); rintro e w5 ⟨A5, n5, c5, rfl, hc5, S5, hb5⟩; have S5 := Lib.hid S5; have SQ5 := Lib.hid (SQ3.out.on hb5); have SR5 := Lib.hid (S3.out.on hb5); have HB5 := Lib.hid (bl_trans HB3.out hb5))
     | (go_at_call 159; (refine (HSt.out w5 SQ5.out).mono ?_); rintro e w6 ⟨A6, n6, c6, L6, rfl, hc6, hn6, S6, hv6, hb6⟩; have S6 := Lib.hid S6; have hv6 := Lib.hid hv6))
     obtain ⟨d1, d2, d3⟩ := hD2.out.1 (by omega)
     refine ⟨⟨j, A6, n6, c6, L6, A5, n5, c5, R + R - D, by omega, rfl, rfl, rfl, hc6, hc5, by omega, S6.out, S5.out.on hb6, by rw [hv6.out]; exact d3, by omega, by rw [hv6.out, d1]; congr 1; omega, bl_trans HB5.out hb6⟩, by simp [intOf]⟩
    ·go_wp2_with (first
     | (go_at_call 133; (with_reducible refine HA1.out.mono ?_); rintro e w3 ⟨A3, n3, c3, rfl, hc3, S3, hb3⟩; have S3 := Lib.hid S3; have SX3 := Lib.hid (SX.out.on hb3); have SD3 := Lib.hid (SD.out.on hb3); have SQ3 := Lib.hid (SQ.out.on hb3); have HB3 := Lib.hid (bl_trans HB hb3); have hn3 := hlen.out _ _ (by omega) S3.out.1; have HSb := Lib.hid (r1sub_calls A3 n3 c3 _ A1 n1 c1 _ w3 S3.out SD3.out (by omega) (by omega) hc3 hc1); unfold RetS at HSb; rw [valL_digs, valL_digs] at HSb)
     | (go_at_call 158; (refine (HBt.out w3 SX3.out).mono ?_); rintro e wx ⟨rfl, hw⟩; obtain rfl := hw.symm)
     | (go_at_call 146; (refine HSb.out.mono ?_); rintro e w5 ⟨A5, n5, c5, rfl, hc5, S5, hb5⟩; have S5 := Lib.hid S5; have SQ5 := Lib.hid (SQ3.out.on hb5); have SR5 := Lib.hid (S3.out.on hb5); have HB5 := Lib.hid (bl_trans HB3.out hb5))
     | (go_at_call 159; (refine (HSt.out w5 SQ5.out).mono ?_); rintro e w6 ⟨A6, n6, c6, L6, rfl, hc6, hn6, S6, hv6, hb6⟩; have S6 := Lib.hid S6; have hv6 := Lib.hid hv6))
     obtain ⟨d1, d2⟩ := hD2.out.2 (by omega)
     refine ⟨⟨j, QA, qn, qc, L, A3, n3, c3, R + R, by omega, rfl, rfl, rfl, hqc, hc3, hqn, SQ5.out, SR5.out, d2, by omega, by rw [d1]; congr 1; omega, HB5.out⟩, by simp [intOf]⟩
   ·rw [show decide ((1 : Nat) = 1) = true from rfl] at HBt
    by_cases hge : D ≤ R + R + 1
    ·go_wp2_with (first
     | (go_at_call 133; (with_reducible refine HA1.out.mono ?_); rintro e w3 ⟨A3, n3, c3, rfl, hc3, S3, hb3⟩; have S3 := Lib.hid S3; have SX3 := Lib.hid (SX.out.on hb3); have SD3 := Lib.hid (SD.out.on hb3); have SQ3 := Lib.hid (SQ.out.on hb3); have HB3 := Lib.hid (bl_trans HB hb3); have hn3 := hlen.out _ _ (by omega) S3.out.1)
     | (go_at_call 133; have HA2 := r1add_calls A3 n3 c3 _ (some ⟨w3.heap.size, 0, none⟩) 1 1 [1] (w3.alloc (.cells #[.int .u32 1] 117)) (S3.out.on (bl_alloc (Below.refl _ _) _)) (SlU.lit1 (Blk.new w3 _ _) (by decide) (by decide) (by simp)) (by omega) (by omega); rw [valL_digs, show valL [1] = 1 from rfl] at HA2; (refine HA2.mono ?_); rintro e w4 ⟨A4, n4, c4, rfl, hc4, S4, hb4⟩; have hb34 := bl_trans (bl_alloc (Below.refl w3.heap.size w3) _) hb4; have S4 := Lib.hid S4; have SD4 := Lib.hid (SD3.out.on hb34); have SQ4 := Lib.hid (SQ3.out.on hb34); have HB4 := Lib.hid (bl_trans HB3.out hb34); have hn4 := hlen.out _ _ (by omega) S4.out.1; have HSb := Lib.hid (r1sub_calls A4 n4 c4 _ A1 n1 c1 _ w4 S4.out SD4.out (by omega) (by omega) hc4 hc1); unfold RetS at HSb; rw [valL_digs, valL_digs] at HSb)
     | (go_at_call 158; (refine (HBt.out w3 SX3.out).mono ?_); rintro e wx ⟨rfl, hw⟩; obtain rfl := hw.symm)
     | (go_at_call 146; (refine HSb.out.mono ?_); rintro e w5 ⟨A5, n5, c5, rfl, hc5, S5, hb5⟩; have S5 := Lib.hid S5; have SQ5 := Lib.hid (SQ4.out.on hb5); have SR5 := Lib.hid (S4.out.on hb5); have HB5 := Lib.hid (bl_trans HB4.out hb5))
     | (go_at_call 159; (refine (HSt.out w5 SQ5.out).mono ?_); rintro e w6 ⟨A6, n6, c6, L6, rfl, hc6, hn6, S6, hv6, hb6⟩; have S6 := Lib.hid S6; have hv6 := Lib.hid hv6))
     obtain ⟨d1, d2, d3⟩ := hD2.out.1 (by omega)
     refine ⟨⟨j, A6, n6, c6, L6, A5, n5, c5, R + R + 1 - D, by omega, rfl, rfl, rfl, hc6, hc5, by omega, S6.out, S5.out.on hb6, by rw [hv6.out]; exact d3, by omega, by rw [hv6.out, d1]; congr 1; omega, bl_trans HB5.out hb6⟩, by simp [intOf]⟩
    ·go_wp2_with (first
     | (go_at_call 133; (with_reducible refine HA1.out.mono ?_); rintro e w3 ⟨A3, n3, c3, rfl, hc3, S3, hb3⟩; have S3 := Lib.hid S3; have SX3 := Lib.hid (SX.out.on hb3); have SD3 := Lib.hid (SD.out.on hb3); have SQ3 := Lib.hid (SQ.out.on hb3); have HB3 := Lib.hid (bl_trans HB hb3); have hn3 := hlen.out _ _ (by omega) S3.out.1)
     | (go_at_call 133; have HA2 := r1add_calls A3 n3 c3 _ (some ⟨w3.heap.size, 0, none⟩) 1 1 [1] (w3.alloc (.cells #[.int .u32 1] 117)) (S3.out.on (bl_alloc (Below.refl _ _) _)) (SlU.lit1 (Blk.new w3 _ _) (by decide) (by decide) (by simp)) (by omega) (by omega); rw [valL_digs, show valL [1] = 1 from rfl] at HA2; (refine HA2.mono ?_); rintro e w4 ⟨A4, n4, c4, rfl, hc4, S4, hb4⟩; have hb34 := bl_trans (bl_alloc (Below.refl w3.heap.size w3) _) hb4; have S4 := Lib.hid S4; have SD4 := Lib.hid (SD3.out.on hb34); have SQ4 := Lib.hid (SQ3.out.on hb34); have HB4 := Lib.hid (bl_trans HB3.out hb34); have hn4 := hlen.out _ _ (by omega) S4.out.1; have HSb := Lib.hid (r1sub_calls A4 n4 c4 _ A1 n1 c1 _ w4 S4.out SD4.out (by omega) (by omega) hc4 hc1); unfold RetS at HSb; rw [valL_digs, valL_digs] at HSb)
     | (go_at_call 158; (refine (HBt.out w3 SX3.out).mono ?_); rintro e wx ⟨rfl, hw⟩; obtain rfl := hw.symm)
     | (go_at_call 146; (refine HSb.out.mono ?_); rintro e w5 ⟨A5, n5, c5, rfl, hc5, S5, hb5⟩; have S5 := Lib.hid S5; have SQ5 := Lib.hid (SQ4.out.on hb5); have SR5 := Lib.hid (S4.out.on hb5); have HB5 := Lib.hid (bl_trans HB4.out hb5))
     | (go_at_call 159; (refine (HSt.out w5 SQ5.out).mono ?_); rintro e w6 ⟨A6, n6, c6, L6, rfl, hc6, hn6, S6, hv6, hb6⟩; have S6 := Lib.hid S6; have hv6 := Lib.hid hv6))
     obtain ⟨d1, d2⟩ := hD2.out.2 (by omega)
     refine ⟨⟨j, QA, qn, qc, L, A4, n4, c4, R + R + 1, by omega, rfl, rfl, rfl, hqc, hc4, hqn, SQ5.out, SR5.out, d2, by omega, by rw [d1]; congr 1; omega, HB5.out⟩, by simp [intOf]⟩
end Go.Proofs.YtagojbgmgkkdpaaGreat.Wk

/- Walk: the reference's Shr of limbs. -/
namespace Go.Proofs.YtagojbgmgkkdpaaGreat.Wk
open Go.RowKit Go.Proofs.Pl Go.Proofs.YtagojbgmgkkdpaaGreatW.PrintLast
set_option linter.unusedSimpArgs false
set_option linter.unusedVariables false

theorem SlU.drop {w : World} {B b off n : Nat} {xs : List Int} (h : SlU w B (some ⟨b, off, none⟩) n xs) {k : Nat} (hk : k ≤ n) : SlU w B (some ⟨b, off + k, none⟩) (n - k) (xs.drop k) := by
 refine ⟨by rw [List.length_drop, h.1], h.2.1.drop k, fun h0 => ?_⟩
 obtain ⟨b', off', e, hb, hc⟩ := h.2.2 (by omega)
 cases e
 refine ⟨_, _, rfl, hb, fun i x hx => ?_⟩
 rw [List.getElem?_drop] at hx
 rw [Nat.add_assoc]
 exact hc _ x hx
theorem shr_drop {xs : List Int} {s : Nat} (h : Lim xs) (hl : s / 32 ≤ xs.length) : valL xs / 2 ^ s = valL (xs.drop (s / 32)) / 2 ^ (s % 32) := by
 have hp : (2 : Nat) ^ s = 4294967296 ^ (s / 32) * 2 ^ (s % 32) := by rw [pow32, ← Nat.pow_add, Nat.div_add_mod]
 have ht := valL_lt (h.take (s / 32))
 rw [List.length_take, Nat.min_eq_left hl] at ht
 have e : valL xs = valL (xs.take (s / 32)) + 4294967296 ^ (s / 32) * valL (xs.drop (s / 32)) := by
  conv => lhs; rw [← List.take_append_drop (s / 32) xs]
  rw [valL_app, List.length_take, Nat.min_eq_left hl]
 rw [hp, ← Nat.div_div_eq_div_mul]
 conv => lhs; rw [e]
 rw [Nat.add_mul_div_left _ _ (Nat.pow_pos (by decide)), Nat.div_eq_of_lt ht, Nat.zero_add]
set_option maxRecDepth 100000 in
set_option maxHeartbeats 4000000 in
theorem r1shr_calls (A : Option Addr) (n c s : Nat) (xs : List Int) (w : World) (hs : SlU w w.heap.size A n xs) (hn : n ≤ 4000) (hc : n ≤ c) (hsb : s ≤ 1000000) :
  Calls Tryz.prog 132 #[.slice A n c, .int .i64 s] w (RetU w (valL xs / 2 ^ s)) := by
 rcases Nat.eq_zero_or_pos s with h0 | h0
 ·subst h0
  have HT := Lib.hid (r1trim_calls A n c xs w hs (by omega) hc)
  rw [Nat.pow_zero, Nat.div_one]
  clear hs
  go_enter Tryz.func132, Tryz.ntmps132
  go_wp2_with (go_at_call 142; (refine HT.out.mono ?_); rintro e w1 ⟨A1, n1, c1, rfl, hc1, S1, HB1⟩)
  go_ret
  exact ⟨A1, n1, c1, rfl, hc1, S1, HB1⟩
 by_cases h1 : 32 * n ≤ s
 ·have hz : digs (valL xs / 2 ^ s) = [] := by
   rw [Nat.div_eq_of_lt (Nat.lt_of_lt_of_le (valL_lt hs.2.1) (by rw [hs.1, pow32]; exact Nat.pow_le_pow_right (by decide) h1)), digs_zero]
  unfold RetU
  rw [hz]
  clear hs hz
  go_enter Tryz.func132, Tryz.ntmps132
  go_wp2
  go_ret
  exact ⟨none, 0, 0, rfl, Nat.le_refl _, SlU.nil _ _ _, Below.refl _ _⟩
 ·obtain ⟨b, off, _, rfl, _⟩ := hs.at_ (k := 0) (by omega)
  have Hs := Lib.hid hs
  clear hs
  go_enter Tryz.func132, Tryz.ntmps132
  have HT := Lib.hid (r1trim_calls _ (n - s / 32) (c - s / 32) _ w (Hs.out.drop (k := s / 32) (by omega)) (by omega) (by omega))
  have hN : Hid (valL xs / 2 ^ s = valL (xs.drop (s / 32)) / 2 ^ (s % 32)) := Lib.hid (shr_drop Hs.out.2.1 (by rw [Hs.out.1]; omega))
  have hln : ∀ n', (digs (valL (xs.drop (s / 32)))).length = n' → n' ≤ n := fun n' h => by
   rw [← h]
   refine digs_len (Nat.lt_of_lt_of_le (valL_lt (Hs.out.2.1.drop _)) (Nat.pow_le_pow_right (by decide) (by rw [List.length_drop, Hs.out.1]; omega)))
  have hln := Lib.hid hln
  generalize valL (xs.drop (s / 32)) = M at HT hN hln
  have hone := Lib.hid (one_shl s)
  go_wp2_with (first
   | (go_at_call 142; (refine HT.out.mono ?_); rintro e w1 ⟨A1, n1, c1, rfl, hc1, S1, HB1⟩; have S1 := Lib.hid S1; have hn1 := hln.out _ S1.out.1)
   | (go_at_call 144; have HD := r1div_calls A1 n1 c1 _ (some ⟨w1.heap.size, 0, none⟩) 1 1 [_] (w1.alloc (.cells #[.int .u32 (2 ^ (s % 32) % 4294967296)] 117)) (S1.out.on (bl_alloc (Below.refl _ _) _)) (SlU.lit1 (Blk.new w1 _ _) hone.out.1 hone.out.2.1 (by simp)) (by omega) (by omega) hc1 (Nat.le_refl _) (by simp only [valL]; rw [hone.out.2.2]; have := Nat.pow_pos (n := s % 32) (show 0 < 2 by decide); omega); rw [valL_digs] at HD; (refine HD.mono ?_); rintro e w2 ⟨A2, n2, c2, A3, n3, c3, rfl, hc2, hc3, S2, S3, hb⟩; have S2 := Lib.hid S2))
  go_ret
  have hv : M / valL [(2 : Int) ^ (s % 32) % 4294967296] = valL xs / 2 ^ s := by
   rw [hN.out]
   simp only [valL]
   rw [hone.out.2.2, Nat.mul_zero, Nat.add_zero]
  exact ⟨A2, n2, c2, rfl, hc2, by rw [← hv]; exact S2.out, bl_trans (bl_alloc HB1 _) hb⟩
end Go.Proofs.YtagojbgmgkkdpaaGreat.Wk
