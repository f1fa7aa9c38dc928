/- Walks: pelorusref21: fits, Side, comes, Winding, Joined, Same. -/
import Derived.Test.YtakajahogjeiaaaDegL
namespace Go.Proofs.Ytakajahogjeiaaa.Wk
open Go.RowKit Go.Proofs.YtakajahogjeiaaaW.PrintLast
set_option linter.unusedSimpArgs false
set_option linter.unusedVariables false

set_option maxHeartbeats 800000 in
theorem rfits_calls (x y : Int) (w : World) :
    Calls Try.prog 55 #[.agg #[.int .i64 x, .int .i64 y]] w fun e w' => e = .returned (.bool (Deg.fits (x, y))) ∧ Below w.heap.size w w' := by
  unfold Deg.fits
  go_enter Try.func55, Try.ntmps55
  go_wp2
  all_goals go_ret
  all_goals refine ⟨?_, (Below.refl _ _).alloc (Nat.le_refl _) _⟩
  all_goals first
    | (refine ret_bool ?_; rw [decide_eq_decide]; omega)
    | (refine ret_bool (Eq.symm ?_); rw [decide_eq_false_iff_not]; omega)
    | (refine ret_bool ?_; rw [Bool.eq_iff_iff]; simp; omega)

theorem wrap_sub {p q : Int} (h0 : -1152921504606846976 ≤ p) (h1 : p ≤ 1152921504606846976) (h2 : -1152921504606846976 ≤ q) (h3 : q ≤ 1152921504606846976) : wrap64 (p - q) = p - q := by unfold wrap64; omega

set_option maxRecDepth 100000 in
set_option maxHeartbeats 2000000 in
theorem rside_calls (x y u v : Int) (w : World) :
    Calls Try.prog 23 #[.agg #[.int .i64 x, .int .i64 y], .agg #[.int .i64 u, .int .i64 v]] w fun e w' => e = .returned (.int .i64 (sideP (x, y) (u, v))) ∧ Below w.heap.size w w' := by
  have HF := Lib.hid (fun W => rfits_calls x y W)
  have HG := Lib.hid (fun W => rfits_calls u v W)
  by_cases hf : Deg.fits (x, y) = true ∧ Deg.fits (u, v) = true
  · obtain ⟨hf, hg⟩ := hf
    rw [sideP_fit hf hg]
    rw [hf] at HF
    rw [hg] at HG
    obtain ⟨a0, a1, a2, a3⟩ := fits_bd hf
    obtain ⟨b0, b1, b2, b3⟩ := fits_bd hg
    dsimp only at a0 a1 a2 a3 b0 b1 b2 b3
    obtain ⟨c0, c1⟩ := mul_bd a0 a1 b2 b3
    obtain ⟨d0, d1⟩ := mul_bd a2 a3 b0 b1
    have e1 : wrap64 (x * v) = x * v := by unfold wrap64; omega
    have e2 : wrap64 (y * u) = y * u := by unfold wrap64; omega
    have e3 := wrap_sub c0 c1 d0 d1
    clear hf hg a0 a1 a2 a3 b0 b1 b2 b3
    unfold Deg.side
    dsimp only
    go_enter Try.func23, Try.ntmps23
    go_wp2_with (go_at_call 55; first
      | ((with_reducible refine (HF.out _).mono ?_); rintro e w1 ⟨rfl, hb1⟩; have BA := ((Blk.new w _ _).alloc _).call hb1; have BB := (Blk.new1 w _ _ _).call hb1; have HB := bl_trans (bl_alloc (bl_alloc (Below.refl w.heap.size w) _) _) hb1; obtain ⟨⟨q0, q1⟩, ⟨f0, f1⟩⟩ := BA.c2; obtain ⟨⟨r0, r1⟩, ⟨g0, g1⟩⟩ := BB.c2; clear hb1 HF)
      | ((with_reducible refine (HG.out _).mono ?_); rintro e w2 ⟨rfl, hb2⟩; have BA := BA.call hb2; have BB := BB.call hb2; have HB := bl_trans HB hb2; clear q0 q1 f0 f1 r0 r1 g0 g1; obtain ⟨⟨q0, q1⟩, ⟨f0, f1⟩⟩ := BA.c2; obtain ⟨⟨r0, r1⟩, ⟨g0, g1⟩⟩ := BB.c2; clear hb2 HG))
    all_goals go_ret
    all_goals refine ⟨?_, HB⟩
    all_goals (refine ret_int ?_; (repeat' split) <;> omega)
  · have hs : sideP (x, y) (u, v) = 0 := by
      unfold sideP
      rw [if_neg]
      simpa using hf
    rw [hs]
    clear hs
    generalize Deg.fits (x, y) = p at HF hf
    generalize Deg.fits (u, v) = q at HG hf
    cases p <;> cases q
    case true.true => exact absurd ⟨rfl, rfl⟩ hf
    all_goals
      clear hf
      go_enter Try.func23, Try.ntmps23
      go_wp2_with (go_at_call 55; first
        | ((with_reducible refine (HF.out _).mono ?_); rintro e w1 ⟨rfl, hb1⟩; have BA := ((Blk.new w _ _).alloc _).call hb1; have BB := (Blk.new1 w _ _ _).call hb1; have HB := bl_trans (bl_alloc (bl_alloc (Below.refl w.heap.size w) _) _) hb1; obtain ⟨⟨q0, q1⟩, ⟨f0, f1⟩⟩ := BA.c2; obtain ⟨⟨r0, r1⟩, ⟨g0, g1⟩⟩ := BB.c2; clear hb1 HF)
        | ((with_reducible refine (HG.out _).mono ?_); rintro e w2 ⟨rfl, hb2⟩; have BA := BA.call hb2; have BB := BB.call hb2; have HB := bl_trans HB hb2; clear q0 q1 f0 f1 r0 r1 g0 g1; obtain ⟨⟨q0, q1⟩, ⟨f0, f1⟩⟩ := BA.c2; obtain ⟨⟨r0, r1⟩, ⟨g0, g1⟩⟩ := BB.c2; clear hb2 HG))
      all_goals go_ret
      all_goals exact ⟨rfl, HB⟩

set_option maxRecDepth 100000 in
set_option maxHeartbeats 2000000 in
theorem comes_calls (x y u v : Int) (hf : Deg.fits (x, y) = true) (hg : Deg.fits (u, v) = true) (w : World) :
    Calls Try.prog 56 #[.agg #[.int .i64 x, .int .i64 y], .agg #[.int .i64 u, .int .i64 v]] w fun e w' => e = .returned (.bool (Deg.comes (x, y) (u, v))) ∧ Below w.heap.size w w' := by
  have HS := Lib.hid (fun W => rside_calls x y u v W)
  rw [sideP_fit hf hg] at HS
  obtain ⟨a0, a1, a2, a3⟩ := fits_bd hf
  obtain ⟨b0, b1, b2, b3⟩ := fits_bd hg
  dsimp only at a0 a1 a2 a3 b0 b1 b2 b3
  obtain ⟨c0, c1⟩ := mul_bd a0 a1 b0 b1
  obtain ⟨d0, d1⟩ := mul_bd a2 a3 b2 b3
  have e1 : wrap64 (x * u) = x * u := by unfold wrap64; omega
  have e2 : wrap64 (y * v) = y * v := by unfold wrap64; omega
  clear hf hg a0 a1 a2 a3 b0 b1 b2 b3
  unfold Deg.comes Deg.comesT
  dsimp only
  generalize Deg.side (x, y) (u, v) = s at HS ⊢
  go_enter Try.func56, Try.ntmps56
  go_wp2_with (go_at_call 23; (with_reducible refine (HS.out _).mono ?_); rintro e w1 ⟨rfl, hb1⟩; have BA := ((Blk.new w _ _).alloc _).call hb1; have BB := (Blk.new1 w _ _ _).call hb1; have HB := bl_trans (bl_alloc (bl_alloc (Below.refl w.heap.size w) _) _) hb1; obtain ⟨⟨q0, q1⟩, ⟨f0, f1⟩⟩ := BA.c2; obtain ⟨⟨r0, r1⟩, ⟨g0, g1⟩⟩ := BB.c2; clear hb1 HS)
  all_goals go_ret
  all_goals refine ⟨?_, HB⟩
  all_goals first
    | (refine ret_bool ?_; rw [decide_eq_decide]; omega)
    | (refine ret_bool (Eq.symm ?_); rw [decide_eq_false_iff_not]; omega)
    | (refine ret_bool ?_; rw [Bool.eq_iff_iff]; simp; omega)

theorem crossT_eq (a b : Deg.S) (s : Int) : Deg.crossT a b s = if a.2 ≤ 0 ∧ 0 < b.2 ∧ s = 1 then 1 else if 0 < a.2 ∧ b.2 ≤ 0 ∧ s = -1 then -1 else 0 := rfl
theorem all_pt {xs : List Deg.S} {n : Nat} (hl : xs.length = n) (h : ∀ j, j < n → Deg.fits (Deg.pt xs j) = true) : xs.all Deg.fits = true := by
  rw [List.all_eq_true]
  intro x hx
  obtain ⟨i, hi, rfl⟩ := List.getElem_of_mem hx
  have := h i (by omega)
  simpa [Deg.pt, hi] using this

set_option maxRecDepth 100000 in
set_option maxHeartbeats 4000000 in
theorem rwind_calls (A : Option Addr) (n c : Nat) (xs : List Deg.S) (w : World) (hs : SlP w w.heap.size A n xs) (hn : n ≤ 1000) :
    Calls Try.prog 18 #[.slice A n c] w fun e w' => e = .returned (.tuple #[.int .i64 (Deg.windRef xs).1, .bool (Deg.windRef xs).2]) ∧ Below w.heap.size w w' := by
  go_enter Try.func18, Try.ntmps18
  go_wp2
  go_loopw [5, 6] (fun i _ wr => ∃ k : Nat, k ≤ n ∧ i = .int .i64 k ∧ (∀ j, j < k → Deg.fits (Deg.pt xs j) = true) ∧ Below w.heap.size w wr) (fun i _ _ => n - (intOf i).toNat)
  case atStart => exact ⟨0, Nat.zero_le _, rfl, fun j hj => absurd hj (Nat.not_lt_zero _), Below.refl _ _⟩
  case round =>
    obtain ⟨k, hk, rfl, hall, HB⟩ := hrel
    have Hall := Lib.hid hall
    clear hall
    by_cases hlt : k < n
    · obtain ⟨b, off, rfl, hbB, hx, e0, e1⟩ := (hs.below HB).at_ hlt
      have HO := Lib.hid (fun W => rfits_calls (Deg.pt xs k).1 (Deg.pt xs k).2 W)
      have Hx := Lib.hid hx
      have Hs := Lib.hid hs
      clear hx hs
      generalize hp : Deg.fits ((Deg.pt xs k).1, (Deg.pt xs k).2) = p at HO
      have Hp : ∀ q : Bool, p = q → Hid (Deg.fits (Deg.pt xs k) = q) := fun q e => hp.trans e
      clear hp
      generalize (Deg.pt xs k).1 = x at HO e0
      generalize (Deg.pt xs k).2 = y at HO e1
      cases p
      · have hpe := Hp false rfl
        clear Hp
        have hw : Deg.windRef xs = (0, false) := by
          rw [← Deg.wind_ref]
          refine Deg.wind_unfit xs (.inr ?_)
          rw [List.all_eq_false]
          exact ⟨_, List.mem_of_getElem? Hx.out, by rw [show Deg.fits (Deg.pt xs k) = false from hpe]; simp⟩
        have Hw := Lib.hid hw
        clear hw
        go_wp2_with (go_at_call 55; (with_reducible refine (HO.out _).mono ?_); rintro e w1 ⟨rfl, hb⟩; have HB1 := bl_trans HB hb; clear hb)
        go_ret2
        rw [Hw.out]
        exact ⟨rfl, HB1⟩
      · have hpe := Hp true rfl
        clear Hp
        go_wp2_with (go_at_call 55; (with_reducible refine (HO.out _).mono ?_); rintro e w1 ⟨rfl, hb⟩; have HB1 := bl_trans HB hb; clear hb)
        go_roundw
        case rel =>
          refine ⟨k + 1, by omega, by go_num, fun j hj => ?_, HB1⟩
          by_cases e : j = k
          · subst e; exact hpe.out
          · exact Hall.out j (by omega)
        case measure => simp [intOf]; omega
    · have hkn : n = k := by omega
      subst hkn
      have hfit := all_pt hs.1 Hall.out
      clear Hall
      go_wp2
      go_loopw [4, 7, 8, 9, 10, 11] (fun m i _ _ _ _ wr => ∃ k : Nat, k ≤ n ∧ i = .int .i64 k ∧ m = .int .i64 (Deg.part Deg.cross xs k) ∧ (∀ j, j < k → Deg.bad (Deg.line xs j).1 (Deg.line xs j).2 = false) ∧ Below w.heap.size w wr) (fun _ i _ _ _ _ _ => n - (intOf i).toNat)
      case atStart => exact ⟨0, Nat.zero_le _, rfl, rfl, fun j hj => absurd hj (Nat.not_lt_zero _), HB⟩
      case round =>
        obtain ⟨k, hk, rfl, rfl, hgood, HB⟩ := hrel
        by_cases hlt : k < n
        · obtain ⟨b, off, rfl, hbB, hx, e0, e1⟩ := (hs.below HB).at_ hlt
          obtain ⟨k', hk', hmod, hE⟩ : ∃ k' : Nat, (k + 1) % n = k' ∧ k' < n ∧ ((k : Int) + 1) % (n : Int) = (k' : Int) := ⟨_, rfl, Nat.mod_lt _ (by omega), by simp⟩
          obtain ⟨b', off', hbo, _, hx', e2, e3⟩ := (hs.below HB).at_ hmod
          cases hbo
          have hline : Deg.line xs k = (((Deg.pt xs k).1, (Deg.pt xs k).2), ((Deg.pt xs k').1, (Deg.pt xs k').2)) := by rw [← hk', ← hs.1]; rfl
          have hp1 : Deg.fits ((Deg.pt xs k).1, (Deg.pt xs k).2) = true := pt_fits hfit k
          have hp2 : Deg.fits ((Deg.pt xs k').1, (Deg.pt xs k').2) = true := pt_fits hfit k'
          have hpart : Deg.part Deg.cross xs (k + 1) = Deg.part Deg.cross xs k + Deg.cross (Deg.line xs k).1 (Deg.line xs k).2 := rfl
          have hbadl : Deg.comes (Deg.line xs k).1 (Deg.line xs k).2 = Deg.bad (Deg.line xs k).1 (Deg.line xs k).2 := (Deg.all _ _).1.symm
          have hbd := Deg.part_bd Deg.cross 1 Deg.cross_bd xs k
          have Hgood := Lib.hid hgood
          have Hs := Lib.hid hs
          have Hline := Lib.hid hline
          rw [hline] at hpart hbadl
          dsimp only at hpart hbadl
          clear hgood hs hx hx' hline hk'
          generalize (Deg.pt xs k).1 = x at e0 hp1 hpart hbadl Hline
          generalize (Deg.pt xs k).2 = y at e1 hp1 hpart hbadl Hline
          generalize (Deg.pt xs k').1 = u at e2 hp2 hpart hbadl Hline
          generalize (Deg.pt xs k').2 = v at e3 hp2 hpart hbadl Hline
          have HC := Lib.hid (fun W => comes_calls x y u v hp1 hp2 W)
          have HS := Lib.hid (fun W => rside_calls x y u v W)
          rw [sideP_fit hp1 hp2] at HS
          have hcr : Deg.cross (x, y) (u, v) = Deg.crossT (x, y) (u, v) (Deg.side (x, y) (u, v)) := rfl
          rw [hcr, crossT_eq] at hpart
          dsimp only at hpart
          rw [hbadl] at HC
          generalize hbb : Deg.bad (x, y) (u, v) = bb at HC
          have hsm := Deg.side_mem (x, y) (u, v)
          simp only [List.mem_cons, List.not_mem_nil, or_false] at hsm
          generalize Deg.side (x, y) (u, v) = s at HS hpart hsm
          generalize Deg.part Deg.cross xs k = N at hpart hbd ⊢
          have Hpart := Lib.hid hpart
          have Hbb := Lib.hid hbb
          clear hpart hbb hcr hbadl hp1 hp2
          have hb0 : b < wr.heap.size := Nat.lt_of_lt_of_le hbB HB.size
          cases bb
          · rcases hsm with rfl | rfl | rfl
            all_goals
             go_wp2_with (first
               | (go_at_call 56; (with_reducible refine (HC.out _).mono ?_); rintro e w1 ⟨rfl, hb⟩; have BA := ((Blk.new wr _ _).alloc _).call hb; have BB := (Blk.new1 wr _ _ _).call hb; have HB1 := bl_trans (bl_alloc (bl_alloc HB _) _) hb; obtain ⟨⟨q0, q1⟩, ⟨f0, f1⟩⟩ := BA.c2; obtain ⟨⟨r0, r1⟩, ⟨g0, g1⟩⟩ := BB.c2; clear hb HC)
               | (go_at_call 23; (with_reducible refine (HS.out _).mono ?_); rintro e w2 ⟨rfl, hb⟩; have BA := BA.call hb; have BB := BB.call hb; have HB2 := bl_trans HB1 hb; clear q0 q1 f0 f1 r0 r1 g0 g1; obtain ⟨⟨q0, q1⟩, ⟨f0, f1⟩⟩ := BA.c2; obtain ⟨⟨r0, r1⟩, ⟨g0, g1⟩⟩ := BB.c2; clear hb HS))
             all_goals go_roundw
             all_goals first
               | exact ⟨k + 1, by omega, by go_num, by rw [Hpart.out]; refine congrArg _ ?_; (repeat' split) <;> first | omega | (exfalso; simp_all; done) | (simp_all <;> omega), (fun j hj => by
                   by_cases e : j = k
                   · subst e; rw [Hline.out]; exact Hbb.out
                   · exact Hgood.out j (by omega)), HB2⟩
               | (simp [intOf] <;> omega)
          · have hw : Deg.windRef xs = (0, false) := Deg.windRef_bad xs k (by have := Hs.out.1; omega) (by rw [Hline.out]; exact Hbb.out)
            have Hw := Lib.hid hw
            clear hw
            go_wp2_with (go_at_call 56; (with_reducible refine (HC.out _).mono ?_); rintro e w1 ⟨rfl, hb⟩; have BA := ((Blk.new wr _ _).alloc _).call hb; have BB := (Blk.new1 wr _ _ _).call hb; have HB1 := bl_trans (bl_alloc (bl_alloc HB _) _) hb; obtain ⟨⟨q0, q1⟩, ⟨f0, f1⟩⟩ := BA.c2; obtain ⟨⟨r0, r1⟩, ⟨g0, g1⟩⟩ := BB.c2; clear hb HC)
            go_ret2
            rw [Hw.out]
            exact ⟨rfl, HB1⟩
        · have hkn : n = k := by omega
          subst hkn
          have hw := Deg.windRef_good xs hfit (fun i hi => hgood i (by have := hs.1; omega))
          rw [hs.1] at hw
          have Hw := Lib.hid hw
          clear hw hgood
          go_wp2
          go_ret2
          rw [Hw.out]
          exact ⟨by refine ret_pair rfl ?_; rw [decide_eq_decide]; (try omega), HB⟩
end Go.Proofs.Ytakajahogjeiaaa.Wk
