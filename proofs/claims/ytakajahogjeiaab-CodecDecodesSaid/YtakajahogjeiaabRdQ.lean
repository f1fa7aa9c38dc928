/- Plain: ops and tubes of bytes; what was written is read back, what is read is written as just these bytes, and no part of a tube's bytes is one. -/
import Derived.Test.YtakajahogjeiaabRdP
namespace Go.Proofs.Ytakajahogjeiaab.Wk
open Go.RowKit Go.Proofs.Pl Go.Proofs.YtakajahogjeiaabW.PrintLast
set_option linter.unusedSimpArgs false
set_option linter.unusedVariables false

/-- an op of bytes -/
def rdO (bs : List Int) : Op × List Int × Bool :=
  (⟨valB (tk 1 bs), (rdN (dr 1 bs)).1, (rdI (rdN (dr 1 bs)).2.1).1, (rdI (rdI (rdN (dr 1 bs)).2.1).2.1).1, (rdI (rdI (rdI (rdN (dr 1 bs)).2.1).2.1).2.1).1⟩,
    (rdI (rdI (rdI (rdN (dr 1 bs)).2.1).2.1).2.1).2.1,
    (((sh 1 bs || (rdN (dr 1 bs)).2.2) || (rdI (rdN (dr 1 bs)).2.1).2.2) || (rdI (rdI (rdN (dr 1 bs)).2.1).2.1).2.2) || (rdI (rdI (rdI (rdN (dr 1 bs)).2.1).2.1).2.1).2.2)
/-- ops, as many as there are; behind so many already -/
def decF : Nat → List Op → List Int → List Op × Int
  | 0, _, _ => ([], 0)
  | f + 1, l, bs => if bs = [] then (l, 0) else if 256 ≤ l.length then ([], 3) else if ((rdO bs).2.2 || !mayOp (rdO bs).1) = true then ([], 2) else decF f (l ++ [(rdO bs).1]) (rdO bs).2.1
def decO (bs : List Int) : List Op × Int := decF 257 [] bs
/-- a slice -/
def rdS (bs : List Int) : Slc × List Int × Bool :=
  (⟨(rdN bs).1, (rdI (rdN bs).2.1).1, (rdI (rdI (rdN bs).2.1).2.1).1⟩, (rdI (rdI (rdN bs).2.1).2.1).2.1, ((rdN bs).2.2 || (rdI (rdN bs).2.1).2.2) || (rdI (rdI (rdN bs).2.1).2.1).2.2)
/-- so many slices -/
def rdSs (bs : List Int) : Nat → List Slc × List Int × Bool
  | 0 => ([], bs, false)
  | n + 1 => ((rdSs bs n).1 ++ [(rdS (rdSs bs n).2.1).1], (rdS (rdSs bs n).2.1).2.1, (rdSs bs n).2.2 || (rdS (rdSs bs n).2.1).2.2)
def tStart (bs : List Int) : Num := (rdN (dr 1 bs)).1
def tIn (bs : List Int) : Iv := (rdI (rdN (dr 1 bs)).2.1).1
def tMany (bs : List Int) : Nat := (valB (tk 1 bs)).toNat
def tRest (bs : List Int) : List Int := (rdI (rdN (dr 1 bs)).2.1).2.1
def tBad (bs : List Int) : Bool := (sh 1 bs || (rdN (dr 1 bs)).2.2) || (rdI (rdN (dr 1 bs)).2.1).2.2
def tAll (bs : List Int) : Tb := ⟨tStart bs, tIn bs, (rdSs (tRest bs) (tMany bs)).1⟩
def tEnd (bs : List Int) : List Int := (rdSs (tRest bs) (tMany bs)).2.1
def tBads (bs : List Int) : Bool := tBad bs || (rdSs (tRest bs) (tMany bs)).2.2
/-- is it a tube? -/
def tOk (bs : List Int) : Bool := !tBads bs && (tEnd bs).isEmpty && mayT (tAll bs)
def zeroT : Tb := ⟨⟨0, false, 0, 0⟩, ⟨false, ⟨0, false, 0, 0⟩, ⟨0, false, 0, 0⟩⟩, []⟩
def decT (bs : List Int) : Tb := if tOk bs = true then tAll bs else zeroT
def decTE (bs : List Int) : Int := if tOk bs = true then 0 else 2

def U64S' (x : Slc) : Prop := U64 x.e.m ∧ U64I x.a ∧ U64I x.o
theorem prod3 {α β γ : Type} (p : α × β × γ) {c : γ} (h : p.2.2 = c) : p = (p.1, p.2.1, c) := by rw [← h]
theorem encIs3 (a b c : Iv) : encIs [a, b, c] = encI a ++ (encI b ++ encI c) := by simp [encIs]
theorem rdO_enc (x : Op) (r : List Int) (hm : mayOp x = true) (hu : U64O x) : rdO (encOp x ++ r) = (x, r, false) := by
  obtain ⟨k, t, a, b, c⟩ := x
  unfold mayOp at hm
  simp only [Bool.and_eq_true, decide_eq_true_eq] at hm
  obtain ⟨⟨k0, k1⟩, m1, m2, m3, m4⟩ := hm
  obtain ⟨u1, u2, u3, u4⟩ := hu
  have hk : k % 256 = k := by omega
  have e : encOp ⟨k, t, a, b, c⟩ ++ r = [k] ++ (encN t ++ (encI a ++ (encI b ++ (encI c ++ r)))) := by
    show ([k % 256] ++ encN t ++ encIs [a, b, c]) ++ r = _
    rw [encIs3, hk]; simp only [List.append_assoc]
  obtain ⟨t1, t2, t3⟩ := tk_app (k := 1) (a := [k]) (b := encN t ++ (encI a ++ (encI b ++ (encI c ++ r)))) rfl
  rw [e]
  unfold rdO
  rw [t1, t2, t3, rdN_enc t _ m1 u1]
  dsimp only
  rw [rdI_enc a _ m2 u2]
  dsimp only
  rw [rdI_enc b _ m3 u3]
  dsimp only
  rw [rdI_enc c _ m4 u4, valB_one]
  rfl
theorem rdO_of {bs r1 r2 r3 r4 : List Int} {t : Num} {a b c : Iv} {b1 b2 b3 b4 : Bool} (h1 : rdN (dr 1 bs) = (t, r1, b1)) (h2 : rdI r1 = (a, r2, b2)) (h3 : rdI r2 = (b, r3, b3)) (h4 : rdI r3 = (c, r4, b4)) :
    rdO bs = (⟨valB (tk 1 bs), t, a, b, c⟩, r4, (((sh 1 bs || b1) || b2) || b3) || b4) := by
  unfold rdO
  rw [h1]
  dsimp only
  rw [h2]
  dsimp only
  rw [h3]
  dsimp only
  rw [h4]
theorem ex3 {α β γ : Type} (p : α × β × γ) : ∃ a b c, p = (a, b, c) := ⟨p.1, p.2.1, p.2.2, rfl⟩
theorem rdO_inv (bs : List Int) (h : Byt bs) (hb : ((rdO bs).2.2 || !mayOp (rdO bs).1) = false) : bs = encOp (rdO bs).1 ++ (rdO bs).2.1 ∧ mayOp (rdO bs).1 = true ∧ U64O (rdO bs).1 ∧ Byt (rdO bs).2.1 := by
  obtain ⟨t, r1, b1, h1⟩ := ex3 (rdN (dr 1 bs))
  obtain ⟨a, r2, b2, h2⟩ := ex3 (rdI r1)
  obtain ⟨b, r3, b3, h3⟩ := ex3 (rdI r2)
  obtain ⟨c, r4, b4, h4⟩ := ex3 (rdI r3)
  rw [rdO_of h1 h2 h3 h4] at hb ⊢
  dsimp only at hb ⊢
  rw [Bool.or_eq_false_iff] at hb
  obtain ⟨hb, hm⟩ := hb
  simp only [Bool.or_eq_false_iff] at hb
  obtain ⟨⟨⟨⟨s1, rfl⟩, rfl⟩, rfl⟩, rfl⟩ := hb
  obtain ⟨e1, m1, u1, k1⟩ := rdN_inv (dr 1 bs) (h.dr 1) h1
  obtain ⟨e2, m2, u2, k2⟩ := rdI_inv _ k1 h2
  obtain ⟨e3, m3, u3, k3⟩ := rdI_inv _ k2 h3
  obtain ⟨e4, m4, u4, k4⟩ := rdI_inv _ k3 h4
  refine ⟨?_, by simpa using hm, ⟨u1, u2, u3, u4⟩, k4⟩
  have hr := valB_range _ (h.tk 1)
  rw [tk_length] at hr
  have hk : valB (tk 1 bs) % 256 = valB (tk 1 bs) := by omega
  have he : encOp ⟨valB (tk 1 bs), t, a, b, c⟩ = [valB (tk 1 bs) % 256] ++ encN t ++ encIs [a, b, c] := rfl
  rw [he, encIs3, hk, List.append_assoc, List.append_assoc, List.append_assoc, List.append_assoc, ← e4, ← e3, ← e2, ← e1, ← one_of (tk_length 1 bs)]
  exact sh_false s1
theorem encOp_ne (x : Op) (r : List Int) : encOp x ++ r ≠ [] := by simp [encOp]
theorem decF_enc : ∀ (l : List Op) (l0 : List Op) (f : Nat), (∀ x ∈ l, mayOp x = true ∧ U64O x) → l0.length + l.length ≤ 256 → l.length < f → decF f l0 (encOps l) = (l0 ++ l, 0)
  | [], l0, f + 1, _, _, _ => by simp [decF, encOps]
  | [], _, 0, _, _, h => by simp at h
  | x :: l, l0, 0, _, _, h => by simp at h
  | x :: l, l0, f + 1, h, hl, hf => by
    have e : encOps (x :: l) = encOp x ++ encOps l := by simp [encOps]
    have hx := h x (by simp)
    have er := rdO_enc x (encOps l) hx.1 hx.2
    simp only [List.length_cons] at hl hf
    unfold decF
    rw [e, if_neg (encOp_ne x _), if_neg (by omega), er]
    dsimp only
    rw [hx.1, if_neg (by decide), decF_enc l (l0 ++ [x]) f (fun y hy => h y (by simp [hy])) (by simp; omega) (by omega)]
    simp
theorem decF_inv : ∀ (f : Nat) (l0 : List Op) (bs : List Int), Byt bs → 257 ≤ f + l0.length → l0.length ≤ 256 →
    ((decF f l0 bs).2 = 0 ∧ ∃ l, (decF f l0 bs).1 = l0 ++ l ∧ bs = encOps l ∧ (∀ x ∈ l, mayOp x = true ∧ U64O x) ∧ l0.length + l.length ≤ 256) ∨ ((decF f l0 bs).2 ≠ 0 ∧ (decF f l0 bs).1 = [])
  | 0, l0, bs, _, hf, hl => by omega
  | f + 1, l0, bs, h, hf, hl => by
    unfold decF
    by_cases h0 : bs = []
    · rw [if_pos h0]
      exact Or.inl ⟨rfl, [], by simp, by simp [h0, encOps], by simp, by simpa using hl⟩
    · rw [if_neg h0]
      by_cases h1 : 256 ≤ l0.length
      · rw [if_pos h1]; exact Or.inr ⟨by decide, rfl⟩
      · rw [if_neg h1]
        by_cases h2 : ((rdO bs).2.2 || !mayOp (rdO bs).1) = true
        · rw [if_pos h2]; exact Or.inr ⟨by decide, rfl⟩
        · rw [if_neg h2]
          obtain ⟨e, m, u, b⟩ := rdO_inv bs h (by simpa using h2)
          rcases decF_inv f (l0 ++ [(rdO bs).1]) (rdO bs).2.1 b (by simp; omega) (by simp; omega) with ⟨g0, l, g1, g2, g3, g4⟩ | g
          · refine Or.inl ⟨g0, (rdO bs).1 :: l, by rw [g1]; simp, ?_, ?_, by simp at g4 ⊢; omega⟩
            · rw [show encOps ((rdO bs).1 :: l) = encOp (rdO bs).1 ++ encOps l from by simp [encOps], ← g2]; exact e
            · intro y hy
              rcases List.mem_cons.1 hy with rfl | hy
              · exact ⟨m, u⟩
              · exact g3 y hy
          · exact Or.inr g

theorem rdS_enc (x : Slc) (r : List Int) (m1 : mayN x.e = true) (m2 : mayI x.a = true) (m3 : mayI x.o = true) (hu : U64S' x) : rdS (encSlc x ++ r) = (x, r, false) := by
  obtain ⟨e, a, o⟩ := x
  obtain ⟨u1, u2, u3⟩ := hu
  have he : encSlc ⟨e, a, o⟩ ++ r = encN e ++ (encI a ++ (encI o ++ r)) := by simp [encSlc]
  rw [he]
  unfold rdS
  rw [rdN_enc e _ m1 u1]
  dsimp only
  rw [rdI_enc a _ m2 u2]
  dsimp only
  rw [rdI_enc o _ m3 u3]
  rfl
theorem rdS_of {bs r1 r2 r3 : List Int} {t : Num} {a b : Iv} {b1 b2 b3 : Bool} (h1 : rdN bs = (t, r1, b1)) (h2 : rdI r1 = (a, r2, b2)) (h3 : rdI r2 = (b, r3, b3)) :
    rdS bs = (⟨t, a, b⟩, r3, (b1 || b2) || b3) := by
  unfold rdS
  rw [h1]
  dsimp only
  rw [h2]
  dsimp only
  rw [h3]
theorem rdS_inv (bs : List Int) (h : Byt bs) {s : Slc} {r : List Int} (hb : rdS bs = (s, r, false)) : bs = encSlc s ++ r ∧ U64S' s ∧ Byt r := by
  obtain ⟨t, r1, b1, h1⟩ := ex3 (rdN bs)
  obtain ⟨a, r2, b2, h2⟩ := ex3 (rdI r1)
  obtain ⟨b, r3, b3, h3⟩ := ex3 (rdI r2)
  rw [rdS_of h1 h2 h3] at hb
  simp only [Prod.mk.injEq, Bool.or_eq_false_iff] at hb
  obtain ⟨rfl, rfl, ⟨rfl, rfl⟩, rfl⟩ := hb
  obtain ⟨e1, m1, u1, k1⟩ := rdN_inv bs h h1
  obtain ⟨e2, m2, u2, k2⟩ := rdI_inv _ k1 h2
  obtain ⟨e3, m3, u3, k3⟩ := rdI_inv _ k2 h3
  refine ⟨?_, ⟨u1, u2, u3⟩, k3⟩
  have he : encSlc ⟨t, a, b⟩ = encN t ++ encI a ++ encI b := rfl
  rw [he, List.append_assoc, List.append_assoc, ← e3, ← e2]
  exact e1
def goodS (x : Slc) : Prop := mayN x.e = true ∧ mayI x.a = true ∧ mayI x.o = true ∧ U64S' x
theorem encSs_drop {l : List Slc} {k : Nat} {x : Slc} (h : l[k]? = some x) : encSs (l.drop k) = encSlc x ++ encSs (l.drop (k + 1)) := by
  have hk : k < l.length := by
    rcases Nat.lt_or_ge k l.length with h' | h'
    · exact h'
    · rw [List.getElem?_eq_none h'] at h; cases h
  rw [List.drop_eq_getElem_cons hk]
  have : l[k] = x := by rw [List.getElem?_eq_getElem hk] at h; exact Option.some.inj h
  simp [encSs, this]
theorem rdSs_enc (l : List Slc) (r : List Int) (h : ∀ x ∈ l, goodS x) : ∀ k, k ≤ l.length → rdSs (encSs l ++ r) k = (l.take k, encSs (l.drop k) ++ r, false)
  | 0, _ => by simp [rdSs]
  | k + 1, hk => by
    have hx : l[k]? = some l[k] := List.getElem?_eq_getElem (by omega)
    obtain ⟨g1, g2, g3, g4⟩ := h l[k] (List.getElem_mem _)
    unfold rdSs
    rw [rdSs_enc l r h k (by omega)]
    dsimp only
    rw [encSs_drop hx, List.append_assoc, rdS_enc l[k] _ g1 g2 g3 g4, List.take_add_one, hx]
    rfl
theorem rdSs_succ {bs r1 r2 : List Int} {n : Nat} {l : List Slc} {s : Slc} {b1 b2 : Bool} (h1 : rdSs bs n = (l, r1, b1)) (h2 : rdS r1 = (s, r2, b2)) : rdSs bs (n + 1) = (l ++ [s], r2, b1 || b2) := by
  rw [rdSs, h1]
  dsimp only
  rw [h2]
theorem rdSs_inv (bs : List Int) (h : Byt bs) : ∀ k l r, rdSs bs k = (l, r, false) → bs = encSs l ++ r ∧ (∀ x ∈ l, U64S' x) ∧ Byt r
  | 0, l, r, hb => by
    rw [rdSs] at hb
    simp only [Prod.mk.injEq] at hb
    obtain ⟨rfl, rfl, _⟩ := hb
    exact ⟨by simp [encSs], by simp, h⟩
  | k + 1, l, r, hb => by
    obtain ⟨l1, r1, b1, h1⟩ := ex3 (rdSs bs k)
    obtain ⟨s, r2, b2, h2⟩ := ex3 (rdS r1)
    rw [rdSs_succ h1 h2] at hb
    simp only [Prod.mk.injEq, Bool.or_eq_false_iff] at hb
    obtain ⟨rfl, rfl, rfl, rfl⟩ := hb
    obtain ⟨e1, u1, k1⟩ := rdSs_inv bs h k l1 r1 h1
    obtain ⟨e2, u2, k2⟩ := rdS_inv _ k1 h2
    refine ⟨?_, ?_, k2⟩
    · rw [show encSs (l1 ++ [s]) = encSs l1 ++ encSlc s from by simp [encSs], List.append_assoc, ← e2]
      exact e1
    · intro x hx
      rcases List.mem_append.1 hx with hx | hx
      · exact u1 x hx
      · rw [List.mem_singleton.1 hx]; exact u2
theorem rdSs_length (bs : List Int) : ∀ k, (rdSs bs k).1.length = k
  | 0 => by rw [rdSs]; rfl
  | k + 1 => by
    obtain ⟨l1, r1, b1, h1⟩ := ex3 (rdSs bs k)
    obtain ⟨s, r2, b2, h2⟩ := ex3 (rdS r1)
    have := rdSs_length bs k
    rw [h1] at this
    rw [rdSs_succ h1 h2]
    simp at this ⊢
    exact this
/-- once something was none, it stays so -/
theorem rdSs_bad (bs : List Int) (k : Nat) (h : (rdSs bs k).2.2 = true) : ∀ d, (rdSs bs (k + d)).2.2 = true
  | 0 => h
  | d + 1 => by
    obtain ⟨l1, r1, b1, h1⟩ := ex3 (rdSs bs (k + d))
    obtain ⟨s, r2, b2, h2⟩ := ex3 (rdS r1)
    have := rdSs_bad bs k h d
    rw [h1] at this
    rw [show k + (d + 1) = k + d + 1 from rfl, rdSs_succ h1 h2]
    simp at this ⊢
    exact .inl this
theorem maySl_good : ∀ (last : Num) (l : List Slc), maySl last l = true → ∀ x ∈ l, mayN x.e = true ∧ mayI x.a = true ∧ mayI x.o = true
  | _, [], _, x, hx => by simp at hx
  | last, s :: l, h, x, hx => by
    unfold maySl at h
    simp only [Bool.and_eq_true] at h
    obtain ⟨⟨⟨⟨h1, h2⟩, h3⟩, h4⟩, h5⟩ := h
    rcases List.mem_cons.1 hx with rfl | hx
    · refine ⟨?_, h3, h4⟩
      unfold whenN at h1
      simp only [Bool.and_eq_true] at h1
      exact h1.1
    · exact maySl_good s.e l h5 x hx
/-- a tube's numbers are words -/
def U64T (t : Tb) : Prop := U64 t.s.m ∧ U64I t.i ∧ ∀ x ∈ t.l, U64S' x
theorem tube_enc (t : Tb) (r : List Int) (hm : mayT t = true) (hu : U64T t) : tAll (encT t ++ r) = t ∧ tEnd (encT t ++ r) = r ∧ tBads (encT t ++ r) = false := by
  obtain ⟨s, i, l⟩ := t
  obtain ⟨u1, u2, u3⟩ := hu
  unfold mayT at hm
  simp only [Bool.and_eq_true, decide_eq_true_eq] at hm
  obtain ⟨⟨⟨m1, m2⟩, m3⟩, m4⟩ := hm
  dsimp only at m1 m2 m3 m4 u1 u2 u3
  have m1' : mayN s = true := by unfold whenN at m1; simp only [Bool.and_eq_true] at m1; exact m1.1
  have hg : ∀ x ∈ l, goodS x := fun x hx => by
    obtain ⟨g1, g2, g3⟩ := maySl_good s l m4 x hx
    exact ⟨g1, g2, g3, u3 x hx⟩
  have e : encT ⟨s, i, l⟩ ++ r = [(l.length : Int)] ++ (encN s ++ (encI i ++ (encSs l ++ r))) := by simp [encT]
  obtain ⟨t1, t2, t3⟩ := tk_app (k := 1) (a := [(l.length : Int)]) (b := encN s ++ (encI i ++ (encSs l ++ r))) rfl
  have a1 := rdN_enc s (encI i ++ (encSs l ++ r)) m1' u1
  have a2 := rdI_enc i (encSs l ++ r) m2 u2
  have a3 := rdSs_enc l r hg l.length (Nat.le_refl _)
  have c1 : tStart (encT ⟨s, i, l⟩ ++ r) = s := by rw [e]; unfold tStart; rw [t2, a1]
  have c2 : tIn (encT ⟨s, i, l⟩ ++ r) = i := by rw [e]; unfold tIn; rw [t2, a1]; dsimp only; rw [a2]
  have c3 : tRest (encT ⟨s, i, l⟩ ++ r) = encSs l ++ r := by rw [e]; unfold tRest; rw [t2, a1]; dsimp only; rw [a2]
  have c4 : tMany (encT ⟨s, i, l⟩ ++ r) = l.length := by rw [e]; unfold tMany; rw [t1, valB_one]; omega
  have c5 : tBad (encT ⟨s, i, l⟩ ++ r) = false := by rw [e]; unfold tBad; rw [t2, t3, a1]; dsimp only; rw [a2]; rfl
  unfold tAll tEnd tBads
  rw [c1, c2, c3, c4, c5, a3]
  simp [encSs]
theorem tube_inv (bs : List Int) (h : Byt bs) (hb : tBads bs = false) : bs = encT (tAll bs) ++ tEnd bs ∧ U64T (tAll bs) ∧ Byt (tEnd bs) := by
  obtain ⟨s, r1, b1, h1⟩ := ex3 (rdN (dr 1 bs))
  obtain ⟨i, r2, b2, h2⟩ := ex3 (rdI r1)
  obtain ⟨l, r3, b3, h3⟩ := ex3 (rdSs r2 (tMany bs))
  have c1 : tStart bs = s := by unfold tStart; rw [h1]
  have c2 : tIn bs = i := by unfold tIn; rw [h1]; dsimp only; rw [h2]
  have c3 : tRest bs = r2 := by unfold tRest; rw [h1]; dsimp only; rw [h2]
  have c5 : tBad bs = ((sh 1 bs || b1) || b2) := by unfold tBad; rw [h1]; dsimp only; rw [h2]
  have hl := rdSs_length r2 (tMany bs)
  unfold tBads at hb
  unfold tAll tEnd
  rw [c3, h3, c5] at hb
  rw [c1, c2, c3, h3]
  rw [h3] at hl
  dsimp only at hb hl ⊢
  simp only [Bool.or_eq_false_iff] at hb
  obtain ⟨⟨⟨s1, rfl⟩, rfl⟩, rfl⟩ := hb
  obtain ⟨e1, m1, u1, k1⟩ := rdN_inv (dr 1 bs) (h.dr 1) h1
  obtain ⟨e2, m2, u2, k2⟩ := rdI_inv _ k1 h2
  obtain ⟨e3, u3, k3⟩ := rdSs_inv r2 k2 _ l r3 h3
  refine ⟨?_, ⟨u1, u2, u3⟩, k3⟩
  have hr := valB_range _ (h.tk 1)
  have hk : (l.length : Int) = valB (tk 1 bs) := by
    rw [hl, tMany]; omega
  have he : encT ⟨s, i, l⟩ = [(l.length : Int)] ++ encN s ++ encI i ++ encSs l := rfl
  rw [he, hk, List.append_assoc, List.append_assoc, List.append_assoc, ← e3, ← e2, ← e1, ← one_of (tk_length 1 bs)]
  exact sh_false s1
theorem tube_back (t : Tb) (hm : mayT t = true) (hu : U64T t) : decT (encT t) = t ∧ decTE (encT t) = 0 := by
  have h := tube_enc t [] hm hu
  rw [List.append_nil] at h
  obtain ⟨h1, h2, h3⟩ := h
  have : tOk (encT t) = true := by unfold tOk; rw [h1, h2, h3, hm]; rfl
  unfold decT decTE
  rw [if_pos this, if_pos this]
  exact ⟨h1, rfl⟩
theorem tube_more (t : Tb) (hm : mayT t = true) (hu : U64T t) (r : List Int) (hr : r ≠ []) : decTE (encT t ++ r) = 2 := by
  obtain ⟨h1, h2, h3⟩ := tube_enc t r hm hu
  unfold decTE
  rw [if_neg]
  unfold tOk
  rw [h2]
  cases r with
  | nil => exact absurd rfl hr
  | cons a r => simp
theorem tOk_inv (bs : List Int) (h : Byt bs) (ho : tOk bs = true) : bs = encT (tAll bs) ∧ mayT (tAll bs) = true ∧ U64T (tAll bs) := by
  unfold tOk at ho
  simp only [Bool.and_eq_true, Bool.not_eq_true', List.isEmpty_iff] at ho
  obtain ⟨⟨o1, o2⟩, o3⟩ := ho
  obtain ⟨e, u, _⟩ := tube_inv bs h o1
  rw [o2, List.append_nil] at e
  exact ⟨e, o3, u⟩
theorem tube_cut (t : Tb) (hm : mayT t = true) (hu : U64T t) (hby : Byt (encT t)) (n : Nat) (hn : n < (encT t).length) : decTE ((encT t).take n) = 2 := by
  unfold decTE
  by_cases ho : tOk ((encT t).take n) = true
  · exfalso
    obtain ⟨e, m, u⟩ := tOk_inv _ (fun x hx => hby x (List.mem_of_mem_take hx)) ho
    have h1 := tube_enc (tAll ((encT t).take n)) ((encT t).drop n) m u
    rw [← e, List.take_append_drop] at h1
    have h2 := tube_enc t [] hm hu
    rw [List.append_nil] at h2
    have h3 : (encT t).drop n = [] := by rw [← h1.2.1, h2.2.1]
    have := congrArg List.length h3
    simp at this
    omega
  · rw [if_neg ho]
theorem tube_once (bs : List Int) (h : Byt bs) (ho : decTE bs = 0) : encTAll (decT bs) = bs ∧ encTErr (decT bs) = 0 := by
  by_cases hk : tOk bs = true
  · obtain ⟨e, m, u⟩ := tOk_inv bs h hk
    unfold decT encTAll encTErr
    rw [if_pos hk, if_pos m, if_pos m]
    exact ⟨e.symm, rfl⟩
  · unfold decTE at ho
    rw [if_neg hk] at ho
    cases ho
theorem ops_back (l : List Op) (hl : l.length ≤ 256) (h : ∀ x ∈ l, mayOp x = true ∧ U64O x) : decO (encOps l) = (l, 0) := by
  unfold decO
  rw [decF_enc l [] 257 h (by simpa using hl) (by omega)]
  rfl
theorem ops_once (bs : List Int) (h : Byt bs) : ((decO bs).2 = 0 ∧ bs = encOps (decO bs).1 ∧ (decO bs).1.all mayOp = true ∧ (decO bs).1.length ≤ 256) ∨ ((decO bs).2 ≠ 0 ∧ (decO bs).1 = []) := by
  rcases decF_inv 257 [] bs h (by simp) (by simp) with ⟨g0, l, g1, g2, g3, g4⟩ | g
  · refine Or.inl ⟨g0, ?_, ?_, ?_⟩
    · show bs = encOps (decF 257 [] bs).1
      rw [g1]; exact g2
    · show (decF 257 [] bs).1.all mayOp = true
      rw [g1]
      rw [List.all_eq_true]
      exact fun x hx => (g3 x hx).1
    · show (decF 257 [] bs).1.length ≤ 256
      rw [g1]; simpa using g4
  · exact Or.inr g
/-- Bytes. -/
theorem Byt.app {a b : List Int} (h : Byt a) (k : Byt b) : Byt (a ++ b) := fun x hx => (List.mem_append.1 hx).elim (h x) (k x)
theorem byt_one {c : Int} (h0 : 0 ≤ c) (h1 : c < 256) : Byt [c] := fun x hx => by rw [List.mem_singleton.1 hx]; exact ⟨h0, h1⟩
theorem byt_sign {m : Int} (h0 : 0 ≤ m) (h1 : m < 255) (b : Bool) : Byt [signB m b] := by
  refine byt_one ?_ ?_ <;> unfold signB <;> split <;> omega
theorem byt_encN (x : Num) : Byt (encN x) := by
  unfold encN
  (repeat' split)
  · exact byt_one (by omega) (by omega)
  · exact byt_sign (by omega) (by omega) _
  · exact ((byt_sign (by omega) (by omega) _).app (byt_wordB _ _ _)).app (byt_wordB _ _ _)
theorem byt_encI (x : Iv) : Byt (encI x) := by
  unfold encI
  split
  · exact byt_one (by omega) (by omega)
  · exact ((byt_one (by omega) (by omega)).app (byt_encN _)).app (byt_encN _)
theorem byt_flat {α : Type} (l : List α) (f : α → List Int) (h : ∀ x, Byt (f x)) : Byt (l.flatMap f) := fun y hy => by
  obtain ⟨a, _, ha⟩ := List.mem_flatMap.1 hy
  exact h a y ha
theorem byt_encOps (l : List Op) : Byt (encOps l) := byt_flat l encOp fun x => by
  unfold encOp
  exact ((byt_one (Int.emod_nonneg _ (by omega)) (Int.emod_lt_of_pos _ (by omega))).app (byt_encN _)).app (byt_flat _ encI byt_encI)
theorem byt_encT (t : Tb) (h : t.l.length < 256) : Byt (encT t) := by
  unfold encT
  exact (((byt_one (by omega) (by omega)).app (byt_encN _)).app (byt_encI _)).app (byt_flat _ encSlc fun x => ((byt_encN _).app (byt_encI _)).app (byt_encI _))
end Go.Proofs.Ytakajahogjeiaab.Wk
