import Derived.Test.YteabdeohhmbclaaGreatRgBy
import Derived.Test.YteabdeohhmbclaaGreatAwXy
namespace Go.Proofs.YteabdeohhmbclaaGreat.Wk
open Go.RowKit Go.Proofs.Pl Go.Proofs.YteabdeohhmbclaaGreatW.PrintLast
set_option linter.unusedSimpArgs false
set_option linter.unusedVariables false
theorem Own2.get {w : World} {base : Nat} : ∀ {hs : List Hd} {gs : List (List Nat)}, Own2 w base hs gs → ∀ {i : Nat} {g : List Nat}, gs[i]? = some g → ∃ h, hs[i]? = some h ∧ OwnK w base (Hd.val h) g
 | [], [], _, i, g, e => by simp at e
 | h :: hs, g0 :: gs, H, 0, g, e => ⟨h, rfl, by simp at e; subst e; exact H.1⟩
 | h :: hs, g0 :: gs, H, i + 1, g, e => Own2.get H.2 (by simpa using e)
 | [], _ :: _, H, _, _, _ => H.elim
 | _ :: _, [], H, _, _, _ => H.elim
theorem heads_at {w2 wr : World} {base : Nat} {v : Value} {hds : List Hd} {gs : List (List Nat)} (OH : OwnH w2 base v hds) (O2 : Own2 w2 base hds gs) (hb : Below w2.heap.size w2 wr) {A : Option Addr} {m c : Nat} (hv : v = .slice A m c) {i : Nat} {g : List Nat} (hi : gs[i]? = some g) :
  ∃ gb go Ai ci, A = some ⟨gb, go, none⟩ ∧ wr.cell? ⟨gb, go + i, none⟩ = some (.slice Ai g.length ci) ∧ (∀ (k x : Nat), g[k]? = some x → ∃ ib io, Ai = some ⟨ib, io, none⟩ ∧ wr.cell? ⟨ib, io + k, none⟩ = some (.i (x : Int))) := by
 obtain ⟨h, hh, OK⟩ := O2.get hi
 obtain ⟨A', c', e, hs⟩ := OwnG.sl hdC_length (by decide) OH
 rw [e] at hv
 injection hv with e1 e2 e3
 subst e1
 have hil : i < hds.length := (List.getElem?_eq_some_iff.1 hh).1
 obtain ⟨gb, go, x, hA, hlt, hx, hc⟩ := hs.at_ hil
 rw [hh] at hx
 cases hx
 obtain ⟨Ai, ci, ev, hsk⟩ := OwnG.sl intC_length (by decide) OK
 have hc0 := hc 0 (Hd.val h) rfl
 rw [ev, Nat.mul_one, Nat.add_zero] at hc0
 refine ⟨gb, go, Ai, ci, hA, (hb.cell (p := ⟨gb, go + i, none⟩) hlt).trans hc0, fun k y hy => ?_⟩
 obtain ⟨ib, io, z, hAi, hlt', hz, hcz⟩ := hsk.at_ (i := k) (List.getElem?_eq_some_iff.1 hy).1
 rw [hy] at hz
 cases hz
 have hcz0 := hcz 0 (.i (y : Int)) rfl
 rw [Nat.mul_one, Nat.add_zero] at hcz0
 exact ⟨ib, io, hAi, (hb.cell (p := ⟨ib, io + k, none⟩) hlt').trans hcz0⟩
theorem meet_symm {x y : Iv} (wx : WfIv x) (wy : WfIv y) : meetI [x, y] = meetI [y, x] := by
 refine eq_meet [x, y] (wf2 wx wy) (may_meet _) (meet_wf _ (wf2 wy wx)) fun k => ?_
 rw [mem_meet [y, x] (wf2 wy wx), all2, all2]
 constructor
 ·rintro ⟨h, a, b⟩; exact ⟨h, b, a⟩
 ·rintro ⟨h, a, b⟩; exact ⟨h, b, a⟩
theorem tL_symm (xs : List Cl) (wx : ∀ x ∈ xs, WfIv x.p.a ∧ WfIv x.p.b) (i k : Nat) : tL xs i k = tL xs k i := by
 unfold tL
 cases hi : xs[i]? with
 | none => cases xs[k]? <;> rfl
 | some x =>
  cases hk : xs[k]? with
  | none => rfl
  | some y =>
   have w1 := wx x (List.mem_of_getElem? hi)
   have w2 := wx y (List.mem_of_getElem? hk)
   show touchI x y = touchI y x
   unfold touchI
   rw [meet_symm w1.1 w2.1, meet_symm w1.2 w2.2]
theorem parts_many {t : Nat → Nat → Bool} {n : Nat} : (groupsP t n).flatten.length = n := by
 have I := groups_inv (t := t) (n := n)
 have hp : (groupsP t n).flatten.Perm (List.range n) := by
  rw [List.perm_ext_iff_of_nodup (show (groupsP t n).flatten.Nodup from I.nodup) List.nodup_range]
  intro j
  rw [List.mem_flatten, List.mem_range]
  constructor
  ·rintro ⟨g, hg, hj⟩; exact groups_lt hg hj
  ·intro hj
   obtain ⟨a, g, ha, hjg⟩ := groups_all (t := t) hj
   exact ⟨g, List.mem_of_getElem? ha, hjg⟩
 rw [hp.length_eq, List.length_range]
set_option maxRecDepth 100000 in
set_option maxHeartbeats 16000000 in
theorem lgroups_calls (A : Option Addr) (n c : Nat) (xs : List Cl) (w : World) (hs : SlC w w.heap.size A n xs) (wx : ∀ x ∈ xs, WfIv x.p.a ∧ WfIv x.p.b) :
  Calls Tryz.prog 3 #[.slice A n c] w fun e w' => e = .returned (.b true) ∧ Below w.heap.size w w' := by
 have HB0 := Below.refl w.heap.size w
 by_cases h30 : 30 < n
 ·have h30' : (30 : Int) < (n : Int) := by omega
  clear hs wx
  go_enter Tryz.func3, Tryz.ntmps3
  go_wp2_with (go_at_call 4; (with_reducible refine (awake20_calls _).mono ?_); rintro e' w1 ⟨rfl, hb⟩; have HB1 := bl_trans HB0 hb; clear hb)
  go_ret
  exact ⟨rfl, HB1⟩
 have h30' : ¬ (30 : Int) < (n : Int) := by omega
 obtain ⟨gs, hgs⟩ : ∃ gs, gs = groupsP (tL xs) n := ⟨_, rfl⟩
 have href : refGr (tL xs) n = gs := by
  rw [hgs]
  exact ref_groups (fun i k hi hk => tL_symm xs (by intro x hx; exact wx x hx) i k)
 have hmany0 : gs.length ≤ n := by subst hgs; exact (groups_inv (t := tL xs) (n := n)).many
 have hmany : ∀ (i : Nat) (g : List Nat), gs[i]? = some g → g.length ≤ n := by
  intro i g hg
  have h1 : gs.flatten.length = n := by subst hgs; exact parts_many
  have h2 : g.length ≤ gs.flatten.length := by
   have hm := List.mem_of_getElem? hg
   obtain ⟨l, r, e⟩ := List.append_of_mem hm
   rw [e]
   simp
   omega
  omega
 replace hgs := Lib.hid hgs
 replace href := Lib.hid href
 replace hmany := Lib.hid hmany
 replace hs := Lib.hid hs
 clear wx
 go_enter Tryz.func3, Tryz.ntmps3
 go_wp2_with (first
  | (go_at_call 4; (with_reducible refine (awake20_calls _).mono ?_); rintro e' w1 ⟨rfl, hb⟩; have HB1 := bl_trans HB0 hb; have HG := Lib.hid (groups_calls A n c xs w1 (hs.out.on hb) (by omega)); have S1 := Lib.hid (SlG.on hs.out hb); clear hb)
  | (go_at_call 5; (with_reducible refine HG.out.mono ?_); rintro e' w2 ⟨v, hds, rfl, OH, O2, hb⟩; have HB2 := bl_trans HB1 hb; have S2 := Lib.hid (SlG.on S1.out hb); obtain ⟨Ag, cg, hv⟩ := OH.form; rw [O2.length] at hv; subst hv; rw [← hgs.out] at OH O2 ⊢; replace OH := Lib.hid OH; replace O2 := Lib.hid O2; have HR := Lib.hid (rgroups_calls A n c xs w2 S2.out (by omega)); clear hb S1 S2 HG HB1)
  | (go_at_call 6; (with_reducible refine HR.out.mono ?_); rintro e' w3 ⟨v', hds', rfl, OH', O2', hb⟩; have HB3 := bl_trans HB2 hb; have HB23 := Lib.hid hb; obtain ⟨Ar, cr, hv'⟩ := OH'.form; rw [O2'.length] at hv'; subst hv'; rw [href.out] at OH' O2' ⊢; replace OH' := Lib.hid OH'; replace O2' := Lib.hid O2'; clear hb HR HB2))
 have hR0 : Hid (∃ i : Nat, i ≤ gs.length ∧ (.i 0 : Value) = .i (i : Int) ∧ Below w3.heap.size w3 w3) := ⟨0, Nat.zero_le _, rfl, Below.refl _ _⟩
 replace HB3 := Lib.hid HB3
 go_loopw [6, 7] (fun v _ wr => ∃ i : Nat, i ≤ gs.length ∧ v = .i (i : Int) ∧ Below w3.heap.size w3 wr) (fun v _ _ => gs.length - (intOf v).toNat)
 case atStart => exact hR0.out
 case round =>
  obtain ⟨i, hi, rfl, HBd⟩ := hrel
  clear hR0
  by_cases hlt : i < gs.length
  rotate_left
  ·have hig : i = gs.length := by omega
   subst hig
   have hfin := Lib.hid (HB3.out.trans (HBd.mono HB3.out.size))
   clear HBd
   go_wp2_with fail
   go_ret
   exact ⟨rfl, hfin.out⟩
  obtain ⟨g, hg⟩ : ∃ g, gs[i]? = some g := ⟨gs[i], List.getElem?_eq_getElem hlt⟩
  have hgl := hmany.out i g hg
  have HB24 := HB23.out.trans (HBd.mono HB23.out.size)
  obtain ⟨gb, go, Ai, ci, hAg, hch, _⟩ := heads_at OH.out O2.out HB24 rfl hg
  obtain ⟨gb', go', Ai', ci', hAr, hch', _⟩ := heads_at OH'.out O2'.out HBd rfl hg
  subst hAg hAr
  obtain ⟨gl, hgl'⟩ : ∃ gl, gl = g.length := ⟨_, rfl⟩
  rw [← hgl'] at hch hch' hgl
  have k1_ : wr.drew.cell? ⟨gb, go + i, none⟩ = some (.slice Ai gl ci) := hch
  have k2_ : wr.drew.cell? ⟨gb', go' + i, none⟩ = some (.slice Ai' gl ci') := hch'
  clear HB24 hch hch'
  replace hgl' := Lib.hid hgl'
  replace hg := Lib.hid hg
  have hi30 : i ≤ 30 := by omega
  go_wp2_with fail
  replace HBd := bl_drew HBd
  refine start_ (n := 11) (S := fun w' => w'.cell? ⟨gb, go + i, none⟩ = some (.slice Ai gl ci) ∧ w'.cell? ⟨gb', go' + i, none⟩ = some (.slice Ai' gl ci')) (ds := []) (bq 11 0) (by kernel_rfl) rfl rfl ⟨k1_, k2_⟩ (fun hHeld => ?_)
  generalize hWW : World.drew _ = w4 at HBd k1_ k2_ hHeld ⊢
  clear hWW
  refine pu 0 32 (bq 11 1) ?_ ?_ (fun _ => ?_) ?_ ?_
  rotate_left 2
  ·go_simp
   with_reducible rfl
  ·simp only [Act.put, pA, pB, pC]
   rfl
  refine pu 1 33 (bq 11 3) ?_ ?_ (fun _ => ?_) ?_ ?_
  rotate_left 2
  ·go_simp
   with_reducible rfl
  ·simp only [Act.put, pA, pB, pC]
   rfl
  refine pu 2 34 (bq 11 7) ?_ ?_ (fun _ => ?_) ?_ ?_
  rotate_left 2
  ·go_simp
   with_reducible rfl
  ·simp only [Act.put, pA, pB, pC]
   rfl
  refine tk 3 35 (bq 11 15) ?_ ?_ ?_ ?_ hHeld ?_
  rotate_left 2
  ·rintro w' ⟨s0_, s1_⟩
   go_simp
   with_reducible rfl
  ·simp only [Act.put, pA, pB, pC]
   rfl
  refine pu 4 36 (bq 11 31) ?_ ?_ (fun _ => ?_) ?_ ?_
  rotate_left 2
  ·go_simp
   with_reducible rfl
  ·simp only [Act.put, pA, pB, pC]
   rfl
  refine pu 5 37 (bq 11 63) ?_ ?_ (fun _ => ?_) ?_ ?_
  rotate_left 2
  ·go_simp
   with_reducible rfl
  ·simp only [Act.put, pA, pB, pC]
   rfl
  refine pu 6 38 (bq 11 127) ?_ ?_ (fun _ => ?_) ?_ ?_
  rotate_left 2
  ·go_simp
   with_reducible rfl
  ·simp only [Act.put, pA, pB, pC]
   rfl
  refine pu 7 39 (bq 11 255) ?_ ?_ (fun _ => ?_) ?_ ?_
  rotate_left 2
  ·go_simp
   with_reducible rfl
  ·simp only [Act.put, pA, pB, pC]
   rfl
  refine tk 8 40 (bq 11 511) ?_ ?_ ?_ ?_ hHeld ?_
  rotate_left 2
  ·rintro w' ⟨s0_, s1_⟩
   go_simp
   with_reducible rfl
  ·simp only [Act.put, pA, pB, pC]
   rfl
  refine pu 9 41 (bq 11 1023) ?_ ?_ (fun _ => ?_) ?_ ?_
  rotate_left 2
  ·go_simp
   with_reducible rfl
  ·simp only [Act.put, pA, pB, pC]
   rfl
  refine pu 10 42 (bq 11 2047) ?_ ?_ (fun _ => ?_) ?_ ?_
  rotate_left 2
  ·go_simp
   with_reducible rfl
  ·simp only [Act.put, pA, pB, pC]
   rfl
  refine done_ (by kernel_rfl) ?_
  clear hHeld k1_ k2_
  have hR1 : Hid (∃ k : Nat, k ≤ gl ∧ (.i 0 : Value) = .i (k : Int) ∧ Below w3.heap.size w3 w4) := ⟨0, Nat.zero_le _, rfl, HBd⟩
  clear HBd
  go_wp2_with fail
  go_loopw [7] (fun v wr => ∃ k : Nat, k ≤ gl ∧ v = .i (k : Int) ∧ Below w3.heap.size w3 wr) (fun v _ => gl - (intOf v).toNat)
  case atStart => exact hR1.out
  case round =>
   obtain ⟨k, hk, rfl, HBd⟩ := hrel
   clear hR1
   have HB24 := HB23.out.trans (HBd.mono HB23.out.size)
   obtain ⟨gb2, go2, Ai2, ci2, hAg, hch, hints⟩ := heads_at OH.out O2.out HB24 rfl hg.out
   obtain ⟨gb2', go2', Ai2', ci2', hAr, hch', hints'⟩ := heads_at OH'.out O2'.out HBd rfl hg.out
   cases hAg
   cases hAr
   rw [← hgl'.out] at hch hch'
   clear HB24
   by_cases hkl : k < gl
   rotate_left
   ·have hkg : k = gl := by omega
    subst hkg
    have hfin : Hid (Below w3.heap.size w3 wr) := HBd
    clear HBd hints hints' hch'
    go_wp2_with fail
    exact ⟨⟨i + 1, hlt, by simp, hfin.out⟩, by simp [intOf]; omega⟩
   obtain ⟨x, hx⟩ : ∃ x, g[k]? = some x := ⟨g[k]'(by rw [← hgl'.out]; exact hkl), List.getElem?_eq_getElem _⟩
   obtain ⟨ib, io, hAi, hcx⟩ := hints k x hx
   obtain ⟨ib', io', hAi', hcx'⟩ := hints' k x hx
   subst hAi hAi'
   have k1_ : wr.drew.cell? ⟨gb, go + i, none⟩ = some (.slice (some ⟨ib, io, none⟩) gl ci2) := hch
   have k2_ : wr.drew.cell? ⟨gb', go' + i, none⟩ = some (.slice (some ⟨ib', io', none⟩) gl ci2') := hch'
   have k3_ : wr.drew.cell? ⟨ib, io + k, none⟩ = some (.i (x : Int)) := hcx
   have k4_ : wr.drew.cell? ⟨ib', io' + k, none⟩ = some (.i (x : Int)) := hcx'
   clear hints hints' hch' hcx hcx' hx
   have hk30 : k ≤ 30 := by omega
   go_wp2_with fail
   clear hch
   replace HBd := bl_drew HBd
   refine start_ (n := 15) (S := fun w' => w'.cell? ⟨gb, go + i, none⟩ = some (.slice (some ⟨ib, io, none⟩) gl ci2) ∧ w'.cell? ⟨gb', go' + i, none⟩ = some (.slice (some ⟨ib', io', none⟩) gl ci2') ∧ w'.cell? ⟨ib, io + k, none⟩ = some (.i (x : Int)) ∧ w'.cell? ⟨ib', io' + k, none⟩ = some (.i (x : Int))) (ds := []) (bq 15 0) (by kernel_rfl) rfl rfl ⟨k1_, k2_, k3_, k4_⟩ (fun hHeld => ?_)
   generalize hWW : World.drew _ = w5 at HBd k1_ k2_ k3_ k4_ hHeld ⊢
   clear hWW
   refine pu 0 52 (bq 15 1) ?_ ?_ (fun _ => ?_) ?_ ?_
   rotate_left 2
   ·go_simp
    with_reducible rfl
   ·simp only [Act.put, pA, pB, pC]
    rfl
   refine pu 1 53 (bq 15 3) ?_ ?_ (fun _ => ?_) ?_ ?_
   rotate_left 2
   ·go_simp
    with_reducible rfl
   ·simp only [Act.put, pA, pB, pC]
    rfl
   refine pu 2 54 (bq 15 7) ?_ ?_ (fun _ => ?_) ?_ ?_
   rotate_left 2
   ·go_simp
    with_reducible rfl
   ·simp only [Act.put, pA, pB, pC]
    rfl
   refine tk 3 55 (bq 15 15) ?_ ?_ ?_ ?_ hHeld ?_
   rotate_left 2
   ·rintro w' ⟨s0_, s1_, s2_, s3_⟩
    go_simp
    with_reducible rfl
   ·simp only [Act.put, pA, pB, pC]
    rfl
   refine pu 4 56 (bq 15 31) ?_ ?_ (fun _ => ?_) ?_ ?_
   rotate_left 2
   ·go_simp
    with_reducible rfl
   ·simp only [Act.put, pA, pB, pC]
    rfl
   refine pu 5 57 (bq 15 63) ?_ ?_ (fun _ => ?_) ?_ ?_
   rotate_left 2
   ·go_simp
    with_reducible rfl
   ·simp only [Act.put, pA, pB, pC]
    rfl
   refine tk 6 58 (bq 15 127) ?_ ?_ ?_ ?_ hHeld ?_
   rotate_left 2
   ·rintro w' ⟨s0_, s1_, s2_, s3_⟩
    go_simp
    with_reducible rfl
   ·simp only [Act.put, pA, pB, pC]
    rfl
   refine pu 7 59 (bq 15 255) ?_ ?_ (fun _ => ?_) ?_ ?_
   rotate_left 2
   ·go_simp
    with_reducible rfl
   ·simp only [Act.put, pA, pB, pC]
    rfl
   refine pu 8 60 (bq 15 511) ?_ ?_ (fun _ => ?_) ?_ ?_
   rotate_left 2
   ·go_simp
    with_reducible rfl
   ·simp only [Act.put, pA, pB, pC]
    rfl
   refine pu 9 61 (bq 15 1023) ?_ ?_ (fun _ => ?_) ?_ ?_
   rotate_left 2
   ·go_simp
    with_reducible rfl
   ·simp only [Act.put, pA, pB, pC]
    rfl
   refine tk 10 62 (bq 15 2047) ?_ ?_ ?_ ?_ hHeld ?_
   rotate_left 2
   ·rintro w' ⟨s0_, s1_, s2_, s3_⟩
    go_simp
    with_reducible rfl
   ·simp only [Act.put, pA, pB, pC]
    rfl
   refine pu 11 63 (bq 15 4095) ?_ ?_ (fun _ => ?_) ?_ ?_
   rotate_left 2
   ·go_simp
    with_reducible rfl
   ·simp only [Act.put, pA, pB, pC]
    rfl
   refine pu 12 64 (bq 15 8191) ?_ ?_ (fun _ => ?_) ?_ ?_
   rotate_left 2
   ·go_simp
    with_reducible rfl
   ·simp only [Act.put, pA, pB, pC]
    rfl
   refine tk 13 65 (bq 15 16383) ?_ ?_ ?_ ?_ hHeld ?_
   rotate_left 2
   ·rintro w' ⟨s0_, s1_, s2_, s3_⟩
    go_simp
    with_reducible rfl
   ·simp only [Act.put, pA, pB, pC]
    rfl
   refine pu 14 66 (bq 15 32767) ?_ ?_ (fun _ => ?_) ?_ ?_
   rotate_left 2
   ·go_simp
    with_reducible rfl
   ·simp only [Act.put, pA, pB, pC]
    rfl
   refine done_ (by kernel_rfl) ?_
   clear hHeld k1_ k2_ k3_ k4_
   go_wp2_with fail
   exact ⟨⟨k + 1, hkl, by simp, HBd⟩, by simp [intOf]; omega⟩
end Go.Proofs.YteabdeohhmbclaaGreat.Wk
