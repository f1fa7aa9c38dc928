/- Walks: (*codec.rest).word, (*pelorusref23.Reader).number. -/
import Derived.Test.YtakajahogjeiaabRdB
import Derived.Laws.BitsAllLaws
namespace Go.Proofs.Ytakajahogjeiaab.Wk
open Go.RowKit Go.Proofs.Pl Go.Proofs.YtakajahogjeiaabW.PrintLast
set_option linter.unusedSimpArgs false
set_option linter.unusedVariables false

theorem valB_snoc (l : List Int) (c : Int) : valB (l ++ [c]) = valB l * 256 + c := by simp [valB, List.foldl_append]
theorem fold_range (l : List Int) (h : Byt l) : ∀ a : Int, 0 ≤ a → 0 ≤ l.foldl (fun n c => n * 256 + c) a ∧ l.foldl (fun n c => n * 256 + c) a < (a + 1) * 256 ^ l.length := by
  induction l with
  | nil => intro a ha; simp; omega
  | cons c l ih =>
    intro a ha
    have h2 := h c (by simp)
    have h1 := ih (fun x hx => h x (by simp [hx])) (a * 256 + c) (by omega)
    rw [List.foldl_cons, List.length_cons, Int.pow_succ]
    refine ⟨h1.1, Int.lt_of_lt_of_le h1.2 ?_⟩
    rw [Int.mul_comm (256 ^ l.length) 256, ← Int.mul_assoc]
    exact Int.mul_le_mul_of_nonneg_right (by omega) (Int.le_of_lt (Int.pow_pos (by omega)))
theorem valB_range (l : List Int) (h : Byt l) : 0 ≤ valB l ∧ valB l < 256 ^ l.length := by
  have := fold_range l h 0 (Int.le_refl _)
  simpa [valB] using this
theorem or_byte (n x : Int) (h0 : 0 ≤ n) (h1 : n < 72057594037927936) (h2 : 0 ≤ x) (h3 : x < 256) : bits .or .u64 (n * 256) x = n * 256 + x := by
  rw [u64_or (n * 256) x (by omega) (by omega) h2 (by omega)]
  have := Nat.two_pow_add_eq_or_of_lt (i := 8) (b := x.toNat) (by omega) n.toNat
  have e : (n * 256).toNat = 2 ^ 8 * n.toNat := by omega
  rw [e, ← this]
  omega
theorem valB_zeros (k : Nat) : valB (List.replicate k 0) = 0 := by
  induction k with
  | zero => rfl
  | succ k ih => rw [List.replicate_succ', valB_snoc, ih]; rfl
set_option maxRecDepth 100000 in
set_option maxHeartbeats 2000000 in
theorem rword_calls (B p : Nat) (bs : List Int) (bad : Bool) (k : Nat) (h0 : 0 < k) (hk : k ≤ 8) (w : World) (hR : Rd w B p bs bad) :
    Calls Try.prog 109 #[.pointer (some ⟨p, 0, none⟩), .int .i64 k] w fun e w' => e = .returned (.int .u64 (valB (tk k bs))) ∧ Rd w' B p (dr k bs) (bad || sh k bs) ∧ w.grownBy w' (some p) := by
  have hpl := hR.lt
  have hby : Byt (tk k bs) := (show Byt bs from hR.2.1).tk k
  have hlen := tk_length k bs
  have HT := Lib.hid (take_calls B p bs bad k h0 (by omega) w hR)
  generalize tk k bs = l at HT hby hlen ⊢
  go_enter Try.func109, Try.ntmps109
  go_wp2_with (go_at_call 72; (with_reducible refine HT.out.mono ?_); rintro e w1 ⟨A, rfl, S1, R1, G1⟩; clear HT)
  go_loopw [5, 12] (fun v i wr => ∃ j : Nat, j ≤ k ∧ i = .int .i64 j ∧ v = .int .u64 (valB (l.take j)) ∧ wr = w1) (fun _ i _ => k - (intOf i).toNat)
  case atStart => exact ⟨0, Nat.zero_le _, rfl, rfl, rfl⟩
  case round =>
    obtain ⟨j, hj, rfl, rfl, rfl⟩ := hrel
    by_cases hlt : j < k
    · obtain ⟨b, off, rfl, hbB, hcc⟩ := S1.2 (by omega)
      have q := hcc j hlt
      obtain ⟨x, hx⟩ : ∃ x, l[j]? = some x := ⟨_, List.getElem?_eq_getElem (show j < l.length by omega)⟩
      have htk : l.take (j + 1) = l.take j ++ [x] := by rw [List.take_add_one, hx]; rfl
      have hval := valB_snoc (l.take j) x
      rw [← htk] at hval
      have hxr := hby x (List.mem_of_getElem? hx)
      have hvr := valB_range (l.take j) (fun y hy => hby y (List.mem_of_mem_take hy))
      rw [List.length_take, hlen, Nat.min_eq_left hj] at hvr
      rw [show l.getD j 0 = x from by simp [List.getD, hx]] at q
      have hpw : (256 : Int) ^ j ≤ 256 ^ 7 := by
        have : (256 : Nat) ^ j ≤ 256 ^ 7 := Nat.pow_le_pow_right (by omega) (by omega)
        exact_mod_cast this
      generalize valB (l.take j) = n at hval hvr
      have h256 : (256 : Int) ^ 7 = 72057594037927936 := by decide
      rw [h256] at hpw
      have hn : 0 ≤ n ∧ n < 72057594037927936 := ⟨hvr.1, by omega⟩
      have hor := or_byte n x hn.1 hn.2 hxr.1 hxr.2
      have Hval := Lib.hid hval
      clear hval hvr hpw h256 htk hx hcc hby hlen S1 R1 G1
      go_wp2
      exact ⟨⟨j + 1, by omega, by go_num, by rw [Hval.out], trivial⟩, by simp [intOf] <;> omega⟩
    · have hkn : k = j := by omega
      subst hkn
      rw [List.take_of_length_le (by omega)]
      go_wp2
      go_ret
      exact ⟨rfl, R1, G1⟩

theorem tk_of_lt {k : Nat} {bs : List Int} (h : bs.length < k) : tk k bs = List.replicate k 0 ∧ dr k bs = bs ∧ sh k bs = true := ⟨if_pos h, if_pos h, decide_eq_true h⟩
theorem tk_of_le {k : Nat} {bs : List Int} (h : ¬ bs.length < k) : tk k bs = bs.take k ∧ dr k bs = bs.drop k ∧ sh k bs = false := ⟨if_neg h, if_neg h, decide_eq_false h⟩
set_option maxRecDepth 100000 in
set_option maxHeartbeats 2000000 in
theorem number_calls (B p : Nat) (bs : List Int) (bad : Bool) (k : Nat) (h0 : 0 < k) (hk : k ≤ 8) (w : World) (hR : Rd w B p bs bad) :
    Calls Try.prog 76 #[.pointer (some ⟨p, 0, none⟩), .int .i64 k] w fun e w' => e = .returned (.int .u64 (valB (tk k bs))) ∧ Rd w' B p (dr k bs) (bad || sh k bs) ∧ w.grownBy w' (some p) := by
  have HR := Lib.hid hR
  obtain ⟨hBp, hBy, t, A, c, hB, hS, hc, hcm⟩ := hR
  have hpl := Blk.lt hB
  obtain ⟨⟨q0, q1⟩, f0, f1⟩ := hB.c2
  by_cases hlt : bs.length < k
  · obtain ⟨h1, h2, h3⟩ := tk_of_lt hlt
    rw [h1, h2, h3, Bool.or_true, valB_zeros]
    have hlti : (bs.length : Int) < (k : Int) := by omega
    clear h1 h2 h3
    generalize bs.length = n at hlt hlti q0
    go_enter Try.func76, Try.ntmps76
    go_wp2
    go_ret
    exact ⟨rfl, HR.out.bad true, grown_set w p 1 _⟩
  · obtain ⟨h1, h2, h3⟩ := tk_of_le hlt
    rw [h1, h2, h3, Bool.or_false]
    have hlti : ¬ (bs.length : Int) < (k : Int) := by omega
    have hkn : k ≤ bs.length := by omega
    have hdl : (bs.drop k).length = bs.length - k := List.length_drop
    have hlen : (bs.take k).length = k := by rw [List.length_take]; omega
    have hby : Byt (bs.take k) := fun x hx => hBy x (List.mem_of_mem_take hx)
    have htk : ∀ j, j < k → (bs.take k)[j]? = bs[j]? := fun j hj => by rw [List.getElem?_take]; simp [hj]
    generalize hl : bs.take k = l at hlen hby htk ⊢
    have hll : bs.length = bs.length := rfl
    generalize hn : bs.length = n at hlt hlti q0 hkn hS hc hdl hB
    have Hn := Lib.hid hn
    clear hl hll h1 h2 h3
    go_enter Try.func76, Try.ntmps76
    go_wp2
    go_loopw [5, 6] (fun v i wr => ∃ j : Nat, j ≤ k ∧ i = .int .i64 j ∧ v = .int .u64 (valB (l.take j)) ∧ wr = w) (fun _ i _ => k - (intOf i).toNat)
    case atStart => exact ⟨0, Nat.zero_le _, rfl, rfl, rfl⟩
    case round =>
      obtain ⟨j, hj, rfl, rfl, rfl⟩ := hrel
      by_cases hlt : j < k
      · obtain ⟨b, off, rfl, hbB, hcc⟩ := hS.2 (by omega)
        have q := hcc j (by omega)
        obtain ⟨x, hx⟩ : ∃ x, l[j]? = some x := ⟨_, List.getElem?_eq_getElem (show j < l.length by omega)⟩
        have hxb : bs[j]? = some x := by rw [← htk j hlt]; exact hx
        have htk' : l.take (j + 1) = l.take j ++ [x] := by rw [List.take_add_one, hx]; rfl
        have hval := valB_snoc (l.take j) x
        rw [← htk'] at hval
        have hxr := hby x (List.mem_of_getElem? hx)
        have hvr := valB_range (l.take j) (fun y hy => hby y (List.mem_of_mem_take hy))
        rw [List.length_take, hlen, Nat.min_eq_left hj] at hvr
        rw [show bs.getD j 0 = x from by simp [List.getD, hxb]] at q
        have hpw : (256 : Int) ^ j ≤ 256 ^ 7 := by
          have : (256 : Nat) ^ j ≤ 256 ^ 7 := Nat.pow_le_pow_right (by omega) (by omega)
          exact_mod_cast this
        generalize valB (l.take j) = v at hval hvr
        have h256 : (256 : Int) ^ 7 = 72057594037927936 := by decide
        rw [h256] at hpw
        have hv : 0 ≤ v ∧ v < 72057594037927936 := ⟨hvr.1, by omega⟩
        have Hval := Lib.hid hval
        obtain ⟨hv0, hv1⟩ := hv
        obtain ⟨hx0, hx1⟩ := hxr
        have hjn : (j : Int) < (n : Int) := by omega
        clear hval hvr hpw h256 htk htk' hx hxb hcc hby hlen hS
        go_wp2
        exact ⟨⟨j + 1, by omega, by go_num, by rw [Hval.out], trivial⟩, by simp [intOf] <;> omega⟩
      · have hkn' : k = j := by omega
        subst hkn'
        rw [List.take_of_length_le (by omega)]
        go_wp2_with (refine wpList_from rfl (.tmp 37) (.tmp 38) rfl rfl rfl hS hkn hc ?_; intro A2 S2)
        go_ret
        refine ⟨rfl, ⟨hBp, ?_, t, A2, c - k, ?_, ?_, ?_, by omega⟩, grown_set _ p 0 _⟩
        · exact fun x hx => hBy x (List.mem_of_mem_drop hx)
        · rw [hdl]; exact hB.set_ 0 _
        · rw [hdl]; exact S2.grown (by omega) hBp (grown_set _ p 0 _)
        · rw [hdl]; omega
end Go.Proofs.Ytakajahogjeiaab.Wk
