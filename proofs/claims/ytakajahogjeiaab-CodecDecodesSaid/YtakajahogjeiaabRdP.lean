/- Plain: what a reader makes of bytes; what was written is read back, what is read is written as just these bytes. -/
import Derived.Test.YtakajahogjeiaabRdC
import Derived.Test.YtakajahogjeiaabTubC
namespace Go.Proofs.Ytakajahogjeiaab.Wk
open Go.RowKit Go.Proofs.Pl Go.Proofs.YtakajahogjeiaabW.PrintLast
set_option linter.unusedSimpArgs false
set_option linter.unusedVariables false

def finR (bs : List Int) : Num := ⟨1, decide (valB (tk 1 bs) = 4), valB (tk 8 (dr 1 bs)), valB (tk 4 (dr 8 (dr 1 bs))) - 1048576⟩
/-- a number of bytes; what is left; whether something was none -/
def rdN (bs : List Int) : Num × List Int × Bool :=
  if valB (tk 1 bs) = 0 then (⟨0, false, 0, 0⟩, dr 1 bs, sh 1 bs)
  else if valB (tk 1 bs) ≤ 2 then (⟨2, decide (valB (tk 1 bs) = 2), 0, 0⟩, dr 1 bs, sh 1 bs)
  else if valB (tk 1 bs) ≤ 4 then (finR bs, dr 4 (dr 8 (dr 1 bs)), ((sh 1 bs || sh 8 (dr 1 bs)) || sh 4 (dr 8 (dr 1 bs))) || !mayN (finR bs))
  else (⟨0, false, 0, 0⟩, dr 1 bs, true)
def ivR (bs : List Int) : Iv := ⟨false, (rdN (dr 1 bs)).1, (rdN (rdN (dr 1 bs)).2.1).1⟩
/-- an interval -/
def rdI (bs : List Int) : Iv × List Int × Bool :=
  if valB (tk 1 bs) = 0 then (noneI, dr 1 bs, sh 1 bs)
  else (ivR bs, (rdN (rdN (dr 1 bs)).2.1).2.1, (((sh 1 bs || !(decide (valB (tk 1 bs) = 1))) || (rdN (dr 1 bs)).2.2) || (rdN (rdN (dr 1 bs)).2.1).2.2) || !mayI (ivR bs))

theorem wrap_u8 (n : Int) : IntKind.u8.wrap n = n % 256 := rfl
theorem valB_wordB (size : Nat) (n : Int) (h0 : 0 ≤ n) (h1 : n < 256 ^ size) : ∀ k, k ≤ size → valB (wordB n size k) = n / 256 ^ (size - k)
  | 0, _ => by
    rw [Nat.sub_zero, Int.ediv_eq_zero_of_lt h0 h1]; rfl
  | k + 1, hk => by
    rw [wordB_succ, valB_snoc, valB_wordB size n h0 h1 k (by omega), byteAt, wrap_u8]
    obtain ⟨d, hd⟩ : ∃ d, size - (k + 1) = d := ⟨_, rfl⟩
    have e1 : size - k = d + 1 := by omega
    have e2 : size - 1 - k = d := by omega
    have e3 : (2 : Int) ^ (8 * d) = 256 ^ d := by rw [Int.pow_mul]; rfl
    rw [hd, e1, e2, e3, Int.pow_succ, ← Int.ediv_ediv_of_nonneg (Int.le_of_lt (Int.pow_pos (by omega)))]
    generalize n / 256 ^ d = q
    omega
theorem valB_word (size : Nat) (n : Int) (h0 : 0 ≤ n) (h1 : n < 256 ^ size) : valB (wordB n size size) = n := by
  rw [valB_wordB size n h0 h1 size (Nat.le_refl _), Nat.sub_self]; simp
theorem byt_wordB (n : Int) (size k : Nat) : Byt (wordB n size k) := by
  intro x hx
  rw [wordB, List.mem_map] at hx
  obtain ⟨i, _, rfl⟩ := hx
  rw [byteAt, wrap_u8]
  omega
theorem fold_inj : ∀ (l l' : List Int) (a b : Int), l.length = l'.length → Byt l → Byt l' → l.foldl (fun n c => n * 256 + c) a = l'.foldl (fun n c => n * 256 + c) b → a = b ∧ l = l'
  | [], [], a, b, _, _, _, h => ⟨h, rfl⟩
  | [], _ :: _, _, _, h, _, _, _ => by simp at h
  | _ :: _, [], _, _, h, _, _, _ => by simp at h
  | c :: l, c' :: l', a, b, hl, h1, h2, h => by
    obtain ⟨e, e'⟩ := fold_inj l l' (a * 256 + c) (b * 256 + c') (by simpa using hl) (fun x hx => h1 x (by simp [hx])) (fun x hx => h2 x (by simp [hx])) h
    have a1 := h1 c (by simp)
    have a2 := h2 c' (by simp)
    refine ⟨by omega, ?_⟩
    rw [e', show c = c' by omega]
theorem word_valB (l : List Int) (h : Byt l) (size : Nat) (hl : l.length = size) : wordB (valB l) size size = l := by
  have hr := valB_range l h
  rw [hl] at hr
  exact (fold_inj (wordB (valB l) size size) l 0 0 (by rw [wordB_length, hl]) (byt_wordB _ _ _) h (valB_word size (valB l) hr.1 hr.2)).2
theorem tk_app {k : Nat} {a b : List Int} (h : a.length = k) : tk k (a ++ b) = a ∧ dr k (a ++ b) = b ∧ sh k (a ++ b) = false := by
  have hl : ¬ (a ++ b).length < k := by rw [List.length_append]; omega
  obtain ⟨h1, h2, h3⟩ := tk_of_le hl
  exact ⟨by rw [h1, ← h]; simp, by rw [h2, ← h]; simp, h3⟩
theorem sh_false {k : Nat} {bs : List Int} (h : sh k bs = false) : bs = tk k bs ++ dr k bs := by
  have : ¬ bs.length < k := of_decide_eq_false h
  obtain ⟨h1, h2, _⟩ := tk_of_le this
  rw [h1, h2, List.take_append_drop]
theorem valB_one (c : Int) : valB [c] = c := by simp [valB]
theorem one_of {l : List Int} (h : l.length = 1) : l = [valB l] := by
  match l, h with
  | [c], _ => rw [valB_one]

theorem u64_zero : U64 0 := ⟨by omega, by omega⟩
/-- a number that may be is read back -/
theorem rdN_enc (x : Num) (r : List Int) (hm : mayN x = true) (hu : U64 x.m) : rdN (encN x ++ r) = (x, r, false) := by
  obtain ⟨k, n, m, e⟩ := x
  obtain ⟨u0, u1⟩ := hu
  unfold mayN at hm
  dsimp only at hm u0 u1
  by_cases h0 : k = 0
  · subst h0
    rw [if_pos rfl] at hm
    simp at hm
    obtain ⟨⟨rfl, rfl⟩, rfl⟩ := hm
    obtain ⟨t1, t2, t3⟩ := tk_app (k := 1) (a := [0]) (b := r) rfl
    show rdN ([0] ++ r) = _
    unfold rdN
    rw [t1, t2, t3, valB_one, if_pos rfl]
  · rw [if_neg h0] at hm
    by_cases h1 : k = 1
    · subst h1
      rw [if_pos rfl] at hm
      obtain ⟨m0, e0, e1⟩ := of_decide_eq_true hm
      have hs : signB 3 n = if n = true then 4 else 3 := by cases n <;> rfl
      have hE : encE e = e + 1048576 := by
        have : wrap64 (e + 1048576) = e + 1048576 := by unfold wrap64; omega
        rw [encE, this]; show (e + 1048576) % 18446744073709551616 = _; omega
      have he : encN ⟨1, n, m, e⟩ ++ r = [signB 3 n] ++ (wordB m 8 8 ++ (wordB (encE e) 4 4 ++ r)) := by simp [encN]
      obtain ⟨t1, t2, t3⟩ := tk_app (k := 1) (a := [signB 3 n]) (b := wordB m 8 8 ++ (wordB (encE e) 4 4 ++ r)) rfl
      obtain ⟨p1, p2, p3⟩ := tk_app (k := 8) (a := wordB m 8 8) (b := wordB (encE e) 4 4 ++ r) (wordB_length _ _ _)
      obtain ⟨q1, q2, q3⟩ := tk_app (k := 4) (a := wordB (encE e) 4 4) (b := r) (wordB_length _ _ _)
      have v1 : valB (wordB m 8 8) = m := valB_word 8 m u0 (Int.lt_of_lt_of_le u1 (by decide))
      have v2 : valB (wordB (encE e) 4 4) = e + 1048576 := by
        rw [hE]; exact valB_word 4 _ (by omega) (Int.lt_of_lt_of_le (b := 4294967296) (by omega) (by decide))
      have hf : finR (encN ⟨1, n, m, e⟩ ++ r) = ⟨1, n, m, e⟩ := by
        rw [he]
        unfold finR
        rw [t1, t2, p1, p2, q1, v1, v2, valB_one, hs]
        cases n <;> simp <;> omega
      unfold rdN
      rw [hf, he, t1, t2, t3, p2, p3, q2, q3, valB_one, hs]
      have hm' : mayN ⟨1, n, m, e⟩ = true := by unfold mayN; rw [if_neg h0, if_pos rfl]; exact hm
      rw [hm']
      cases n <;> simp
    · rw [if_neg h1] at hm
      obtain ⟨rfl, rfl, rfl⟩ : k = 2 ∧ m = 0 ∧ e = 0 := by simpa using hm
      obtain ⟨t1, t2, t3⟩ := tk_app (k := 1) (a := [signB 1 n]) (b := r) rfl
      show rdN ([signB 1 n] ++ r) = _
      unfold rdN
      rw [t1, t2, t3, valB_one]
      cases n <;> rfl
/-- what is read as a number is written as just these bytes -/
theorem rdN_inv (bs : List Int) (h : Byt bs) {x : Num} {r : List Int} (hr : rdN bs = (x, r, false)) : bs = encN x ++ r ∧ mayN x = true ∧ U64 x.m ∧ Byt r := by
  have h1b : Byt (tk 1 bs) := h.tk 1
  have hone := one_of (tk_length 1 bs)
  have hrg := valB_range _ h1b
  rw [tk_length] at hrg
  unfold rdN at hr
  by_cases h0 : valB (tk 1 bs) = 0
  · rw [if_pos h0] at hr
    obtain ⟨rfl, rfl, hs⟩ : (⟨0, false, 0, 0⟩ : Num) = x ∧ dr 1 bs = r ∧ sh 1 bs = false := by simpa using hr
    refine ⟨?_, rfl, u64_zero, h.dr 1⟩
    have e := sh_false hs
    rw [hone, h0] at e
    exact e
  · rw [if_neg h0] at hr
    by_cases h2 : valB (tk 1 bs) ≤ 2
    · rw [if_pos h2] at hr
      obtain ⟨rfl, rfl, hs⟩ : (⟨2, decide (valB (tk 1 bs) = 2), 0, 0⟩ : Num) = x ∧ dr 1 bs = r ∧ sh 1 bs = false := by simpa using hr
      refine ⟨?_, rfl, u64_zero, h.dr 1⟩
      have e := sh_false hs
      rw [hone] at e
      have hv : valB (tk 1 bs) = signB 1 (decide (valB (tk 1 bs) = 2)) := by
        by_cases h22 : valB (tk 1 bs) = 2
        · rw [h22]; rfl
        · rw [show valB (tk 1 bs) = 1 by omega]; rfl
      rw [hv] at e
      exact e
    · rw [if_neg h2] at hr
      by_cases h4 : valB (tk 1 bs) ≤ 4
      · rw [if_pos h4] at hr
        obtain ⟨rfl, rfl, hs⟩ : finR bs = x ∧ dr 4 (dr 8 (dr 1 bs)) = r ∧ (((sh 1 bs || sh 8 (dr 1 bs)) || sh 4 (dr 8 (dr 1 bs))) || !mayN (finR bs)) = false := by
          rw [Prod.mk.injEq, Prod.mk.injEq] at hr; exact hr
        rw [Bool.or_eq_false_iff, Bool.or_eq_false_iff, Bool.or_eq_false_iff] at hs
        obtain ⟨⟨⟨s1, s2⟩, s3⟩, s4⟩ := hs
        have hm : mayN (finR bs) = true := by simpa using s4
        have b1 := h.dr 1
        have b2 := b1.dr 8
        have g8 := valB_range _ (b1.tk 8)
        have g4 := valB_range _ (b2.tk 4)
        rw [tk_length] at g8 g4
        have n8 : (256 : Int) ^ 8 = 18446744073709551616 := by decide
        have n4 : (256 : Int) ^ 4 = 4294967296 := by decide
        rw [n8] at g8
        rw [n4] at g4
        refine ⟨?_, hm, g8, b2.dr 4⟩
        have w8 := word_valB _ (b1.tk 8) 8 (tk_length _ _)
        have w4 := word_valB _ (b2.tk 4) 4 (tk_length _ _)
        have hE : encE (valB (tk 4 (dr 8 (dr 1 bs))) - 1048576) = valB (tk 4 (dr 8 (dr 1 bs))) := by
          generalize valB (tk 4 (dr 8 (dr 1 bs))) = v at g4
          have : wrap64 (v - 1048576 + 1048576) = v := by unfold wrap64; omega
          rw [encE, this]; show v % 18446744073709551616 = _; omega
        have hv : valB (tk 1 bs) = signB 3 (decide (valB (tk 1 bs) = 4)) := by
          by_cases h22 : valB (tk 1 bs) = 4
          · rw [h22]; rfl
          · rw [show valB (tk 1 bs) = 3 by omega]; rfl
        have he : encN (finR bs) = [signB 3 (decide (valB (tk 1 bs) = 4))] ++ wordB (valB (tk 8 (dr 1 bs))) 8 8 ++ wordB (encE (valB (tk 4 (dr 8 (dr 1 bs))) - 1048576)) 4 4 := rfl
        rw [he, ← hv, ← hone, w8, hE, w4, List.append_assoc, List.append_assoc, ← sh_false s3, ← sh_false s2, ← sh_false s1]
      · rw [if_neg h4] at hr
        simp at hr

theorem encI_none (r : List Int) : encI noneI ++ r = [0] ++ r := rfl
/-- an interval that may be is read back -/
theorem rdI_enc (x : Iv) (r : List Int) (hm : mayI x = true) (hu : U64I x) : rdI (encI x ++ r) = (x, r, false) := by
  by_cases he : x.emp = true
  · have hx : x = noneI := by unfold mayI at hm; rw [if_pos he] at hm; exact of_decide_eq_true hm
    subst hx
    obtain ⟨t1, t2, t3⟩ := tk_app (k := 1) (a := [0]) (b := r) rfl
    rw [encI_none]
    unfold rdI
    rw [t1, t2, t3, valB_one, if_pos rfl]
  · have hm0 := hm
    unfold mayI at hm
    rw [if_neg he] at hm
    simp only [Bool.and_eq_true] at hm
    obtain ⟨⟨⟨⟨m1, m2⟩, m3⟩, m4⟩, m5⟩ := hm
    obtain ⟨emp, lo, hi⟩ := x
    obtain rfl : emp = false := by simpa using he
    dsimp only at m1 m2 m3
    have e : encI ⟨false, lo, hi⟩ ++ r = [1] ++ (encN lo ++ (encN hi ++ r)) := by simp [encI]
    obtain ⟨t1, t2, t3⟩ := tk_app (k := 1) (a := [1]) (b := encN lo ++ (encN hi ++ r)) rfl
    have a1 := rdN_enc lo (encN hi ++ r) m1 hu.1
    have a2 := rdN_enc hi r m2 hu.2
    have ei : ivR (encI ⟨false, lo, hi⟩ ++ r) = ⟨false, lo, hi⟩ := by rw [e]; unfold ivR; rw [t2, a1, a2]
    unfold rdI
    rw [ei, e, t1, t2, t3, a1, a2, hm0, valB_one]
    rfl
theorem rdI_inv (bs : List Int) (h : Byt bs) {x : Iv} {r : List Int} (hr : rdI bs = (x, r, false)) : bs = encI x ++ r ∧ mayI x = true ∧ U64I x ∧ Byt r := by
  have hone := one_of (tk_length 1 bs)
  unfold rdI at hr
  by_cases h0 : valB (tk 1 bs) = 0
  · rw [if_pos h0] at hr
    obtain ⟨rfl, rfl, hs⟩ : noneI = x ∧ dr 1 bs = r ∧ sh 1 bs = false := by simpa using hr
    refine ⟨?_, rfl, ⟨u64_zero, u64_zero⟩, h.dr 1⟩
    have e := sh_false hs
    rw [hone, h0] at e
    exact e
  · rw [if_neg h0] at hr
    obtain ⟨rfl, rfl, hs⟩ : ivR bs = x ∧ (rdN (rdN (dr 1 bs)).2.1).2.1 = r ∧ ((((sh 1 bs || !(decide (valB (tk 1 bs) = 1))) || (rdN (dr 1 bs)).2.2) || (rdN (rdN (dr 1 bs)).2.1).2.2) || !mayI (ivR bs)) = false := by
      rw [Prod.mk.injEq, Prod.mk.injEq] at hr; exact hr
    rw [Bool.or_eq_false_iff, Bool.or_eq_false_iff, Bool.or_eq_false_iff, Bool.or_eq_false_iff] at hs
    obtain ⟨⟨⟨⟨s1, s2⟩, s3⟩, s4⟩, s5⟩ := hs
    have hm : mayI (ivR bs) = true := by simpa using s5
    have h1 : valB (tk 1 bs) = 1 := by simpa using s2
    obtain ⟨e1, m1, u1, b1⟩ := rdN_inv (dr 1 bs) (h.dr 1) (x := (rdN (dr 1 bs)).1) (r := (rdN (dr 1 bs)).2.1) (by rw [← s3])
    obtain ⟨e2, m2, u2, b2⟩ := rdN_inv (rdN (dr 1 bs)).2.1 b1 (x := (rdN (rdN (dr 1 bs)).2.1).1) (r := (rdN (rdN (dr 1 bs)).2.1).2.1) (by rw [← s4])
    refine ⟨?_, hm, ⟨u1, u2⟩, b2⟩
    have he : encI (ivR bs) = [1] ++ encN (rdN (dr 1 bs)).1 ++ encN (rdN (rdN (dr 1 bs)).2.1).1 := rfl
    rw [he, List.append_assoc, List.append_assoc, ← e2, ← e1, ← h1, ← hone]
    exact sh_false s1
end Go.Proofs.Ytakajahogjeiaab.Wk
