/- tube.Over has what overT says. -/
import Derived.Test.YteabdeohhmbclaaGreatOvCy
namespace Go.Proofs.YteabdeohhmbclaaGreat.Wk
open Go.RowKit Go.Shelf Go.Proofs.Pl Go.Proofs.YteabdeohhmbclaaGreatW.PrintLast
set_option linter.unusedSimpArgs false
set_option linter.unusedVariables false

theorem over_calls (s0 : Int) (s1 : Bool) (s2 s3 : Int) (i0 : Bool) (i1 : Int) (i2 : Bool) (i3 i4 i5 : Int) (i6 : Bool) (i7 i8 : Int) (A : Option Addr) (n c : Nat) (xs : List Slc) (x0 : Bool) (x1 : Int) (x2 : Bool) (x3 x4 x5 : Int) (x6 : Bool) (x7 x8 : Int) (w : World) (hs : SlT w w.heap.size A n xs) :
  Calls Tryz.prog 77 #[.agg #[.i s0, .b s1, .u s2, .i s3, .b i0, .i i1, .b i2, .u i3, .i i4, .i i5, .b i6, .u i7, .i i8, .slice A n c], .agg #[.b x0, .i x1, .b x2, .u x3, .i x4, .i x5, .b x6, .u x7, .i x8]] w fun e w' => e = .returned (.agg #[.b ((overT ⟨s0, s1, s2, s3⟩ ⟨i0, ⟨i1, i2, i3, i4⟩, ⟨i5, i6, i7, i8⟩⟩ xs ⟨x0, ⟨x1, x2, x3, x4⟩, ⟨x5, x6, x7, x8⟩⟩)).emp, .i (((overT ⟨s0, s1, s2, s3⟩ ⟨i0, ⟨i1, i2, i3, i4⟩, ⟨i5, i6, i7, i8⟩⟩ xs ⟨x0, ⟨x1, x2, x3, x4⟩, ⟨x5, x6, x7, x8⟩⟩)).lo).k, .b (((overT ⟨s0, s1, s2, s3⟩ ⟨i0, ⟨i1, i2, i3, i4⟩, ⟨i5, i6, i7, i8⟩⟩ xs ⟨x0, ⟨x1, x2, x3, x4⟩, ⟨x5, x6, x7, x8⟩⟩)).lo).n, .u (((overT ⟨s0, s1, s2, s3⟩ ⟨i0, ⟨i1, i2, i3, i4⟩, ⟨i5, i6, i7, i8⟩⟩ xs ⟨x0, ⟨x1, x2, x3, x4⟩, ⟨x5, x6, x7, x8⟩⟩)).lo).m, .i (((overT ⟨s0, s1, s2, s3⟩ ⟨i0, ⟨i1, i2, i3, i4⟩, ⟨i5, i6, i7, i8⟩⟩ xs ⟨x0, ⟨x1, x2, x3, x4⟩, ⟨x5, x6, x7, x8⟩⟩)).lo).e, .i (((overT ⟨s0, s1, s2, s3⟩ ⟨i0, ⟨i1, i2, i3, i4⟩, ⟨i5, i6, i7, i8⟩⟩ xs ⟨x0, ⟨x1, x2, x3, x4⟩, ⟨x5, x6, x7, x8⟩⟩)).hi).k, .b (((overT ⟨s0, s1, s2, s3⟩ ⟨i0, ⟨i1, i2, i3, i4⟩, ⟨i5, i6, i7, i8⟩⟩ xs ⟨x0, ⟨x1, x2, x3, x4⟩, ⟨x5, x6, x7, x8⟩⟩)).hi).n, .u (((overT ⟨s0, s1, s2, s3⟩ ⟨i0, ⟨i1, i2, i3, i4⟩, ⟨i5, i6, i7, i8⟩⟩ xs ⟨x0, ⟨x1, x2, x3, x4⟩, ⟨x5, x6, x7, x8⟩⟩)).hi).m, .i (((overT ⟨s0, s1, s2, s3⟩ ⟨i0, ⟨i1, i2, i3, i4⟩, ⟨i5, i6, i7, i8⟩⟩ xs ⟨x0, ⟨x1, x2, x3, x4⟩, ⟨x5, x6, x7, x8⟩⟩)).hi).e]) ∧ Below w.heap.size w w' := by
 cases hm : mayT ⟨⟨s0, s1, s2, s3⟩, ⟨i0, ⟨i1, i2, i3, i4⟩, ⟨i5, i6, i7, i8⟩⟩, xs⟩
 ·rw [show overT ⟨s0, s1, s2, s3⟩ ⟨i0, ⟨i1, i2, i3, i4⟩, ⟨i5, i6, i7, i8⟩⟩ xs ⟨x0, ⟨x1, x2, x3, x4⟩, ⟨x5, x6, x7, x8⟩⟩ = noneI from by unfold overT; rw [hm]; rfl]
  exact over_a s0 s1 s2 s3 i0 i1 i2 i3 i4 i5 i6 i7 i8 A n c xs x0 x1 x2 x3 x4 x5 x6 x7 x8 w hs hm
 cases x0
 rotate_left
 ·rw [show overT ⟨s0, s1, s2, s3⟩ ⟨i0, ⟨i1, i2, i3, i4⟩, ⟨i5, i6, i7, i8⟩⟩ xs ⟨true, ⟨x1, x2, x3, x4⟩, ⟨x5, x6, x7, x8⟩⟩ = noneI from by unfold overT; rw [hm]; rfl]
  exact over_b s0 s1 s2 s3 i0 i1 i2 i3 i4 i5 i6 i7 i8 A n c xs true x1 x2 x3 x4 x5 x6 x7 x8 w hs hm rfl
 cases hx : mayI ⟨false, ⟨x1, x2, x3, x4⟩, ⟨x5, x6, x7, x8⟩⟩
 ·rw [show overT ⟨s0, s1, s2, s3⟩ ⟨i0, ⟨i1, i2, i3, i4⟩, ⟨i5, i6, i7, i8⟩⟩ xs ⟨false, ⟨x1, x2, x3, x4⟩, ⟨x5, x6, x7, x8⟩⟩ = noneI from by unfold overT; rw [hm, hx]; rfl]
  exact over_c s0 s1 s2 s3 i0 i1 i2 i3 i4 i5 i6 i7 i8 A n c xs false x1 x2 x3 x4 x5 x6 x7 x8 w hs hm rfl hx
 have hif : overT ⟨s0, s1, s2, s3⟩ ⟨i0, ⟨i1, i2, i3, i4⟩, ⟨i5, i6, i7, i8⟩⟩ xs ⟨false, ⟨x1, x2, x3, x4⟩, ⟨x5, x6, x7, x8⟩⟩ = if cmpN ⟨x1, x2, x3, x4⟩ ⟨s0, s1, s2, s3⟩ < 0 ∨ 0 < cmpN ⟨x5, x6, x7, x8⟩ (endT ⟨s0, s1, s2, s3⟩ xs) then allI else hullI (overF ⟨false, ⟨x1, x2, x3, x4⟩, ⟨x5, x6, x7, x8⟩⟩ xs ([atT ⟨s0, s1, s2, s3⟩ ⟨i0, ⟨i1, i2, i3, i4⟩, ⟨i5, i6, i7, i8⟩⟩ xs ⟨x1, x2, x3, x4⟩, atT ⟨s0, s1, s2, s3⟩ ⟨i0, ⟨i1, i2, i3, i4⟩, ⟨i5, i6, i7, i8⟩⟩ xs ⟨x5, x6, x7, x8⟩], ⟨s0, s1, s2, s3⟩) (gatesL ⟨s0, s1, s2, s3⟩ ⟨i0, ⟨i1, i2, i3, i4⟩, ⟨i5, i6, i7, i8⟩⟩ xs (xs.length + 1))).1 := by
  unfold overT
  rw [hm, hx]
  rfl
 by_cases hd : cmpN ⟨x1, x2, x3, x4⟩ ⟨s0, s1, s2, s3⟩ < 0
 ·rw [hif, if_pos (.inl hd)]
  exact over_d s0 s1 s2 s3 i0 i1 i2 i3 i4 i5 i6 i7 i8 A n c xs false x1 x2 x3 x4 x5 x6 x7 x8 w hs hm rfl hx hd
 by_cases he : 0 < cmpN ⟨x5, x6, x7, x8⟩ (endT ⟨s0, s1, s2, s3⟩ xs)
 ·rw [hif, if_pos (.inr he)]
  exact over_e s0 s1 s2 s3 i0 i1 i2 i3 i4 i5 i6 i7 i8 A n c xs false x1 x2 x3 x4 x5 x6 x7 x8 w hs hm rfl hx hd he
 rw [hif, if_neg (by rintro (h | h); exact hd h; exact he h), hs.1]
 exact over_f s0 s1 s2 s3 i0 i1 i2 i3 i4 i5 i6 i7 i8 A n c xs false x1 x2 x3 x4 x5 x6 x7 x8 w hs hm rfl hx hd he
end Go.Proofs.YteabdeohhmbclaaGreat.Wk
