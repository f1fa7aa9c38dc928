/- Walks: the paver's stack: pop. -/
import Derived.Test.YteabdeohhmbclaaGreatPvXy
import Derived.Test.YteabdeohhmbclaaGreatGrAy
namespace Go.Proofs.YteabdeohhmbclaaGreat.Wk
open Go.RowKit Go.Proofs.Pl Go.Proofs.YteabdeohhmbclaaGreatW.PrintLast
set_option linter.unusedSimpArgs false
set_option linter.unusedVariables false

theorem Rng.below {w w' : World} {B b o : Nat} {cs : List Value} (h : w.rangeAt b o cs) (hb : Below B w w') (hlt : b < B) : w'.rangeAt b o cs := fun j v hv => (hb.cell (p := ⟨b, o + j, none⟩) hlt).trans (h j v hv)
def zPr : Array Value := #[.b false, .i 0, .b false, .u 0, .i 0, .i 0, .b false, .u 0, .i 0, .b false, .i 0, .b false, .u 0, .i 0, .i 0, .b false, .u 0, .i 0]
theorem prCells_all (p : Pr) : (prCells p).toArray.all (·.oneCell') = true := by simpa using prCells_one p
set_option maxRecDepth 100000 in
set_option maxHeartbeats 4000000 in
theorem pop_calls (V : Nat) (rest : List Value) (T : TypeId) (hT : T ≠ 41) (base : Nat) (vs : Value) (ps : List Pr) (p : Pr) (w : World) (hV : Blk w V T (vs :: rest).toArray) (ho : OwnP w base vs (ps ++ [p])) (hl : ps.length ≤ 1000000) :
  Calls Tryz.prog 19 #[.pointer (some ⟨V, 0, none⟩)] w fun e w' => e = .returned (.agg (prCells p).toArray) ∧ ∃ v', Blk w' V T (v' :: rest).toArray ∧ OwnP w' base v' ps ∧ v'.ownBlock = vs.ownBlock ∧ Only (fun k => k = V) w w' := by
 obtain ⟨A0, c0, rfl, hsl⟩ := ho.sl prCells_length (by decide)
 have hlen : (ps ++ [p]).length = ps.length + 1 := by simp
 obtain ⟨b, off, x, rfl, hbB, hx, hc⟩ := hsl.at_ (i := ps.length) (by rw [hlen]; omega)
 obtain rfl : p = x := by simpa using hx
 rw [hlen] at ho hV ⊢
 have hcap : ps.length + 1 ≤ c0 := by
  rcases ho.2 with ⟨he, _⟩ | ⟨g, cap, cur, he, hb, hg, hnc, _⟩
  ·cases he
  ·injection he with _ e2 e3
   rw [hlen] at hnc; omega
 clear hsl hx hlen
 have R : w.rangeAt b (off + ps.length * 18) (prCells p) := fun j v hj => hc j v hj
 have HO := Lib.hid ho
 have lV := hV.lt
 have k0 : w.cell? ⟨V, 0, none⟩ = some (.slice (some ⟨b, off, none⟩) (ps.length + 1) c0) := hV.cell 0
 have f0 : w.frozen? ⟨V, 0, none⟩ = false := hV.frozen 0
 have hVz := Lib.hid hV
 clear hV ho hc
 have X := Lib.hid (rfl : ps.length = ps.length)
 generalize hn : ps.length = n at k0 hVz HO R hl hcap ⊢
 replace hn := Lib.hid hn
 clear X
 have en : (((n + 1 : Nat) : Int) - 1) = n := by omega
 have R1 := Rng.below R (bl_alloc (Below.refl w.heap.size w) (.cells zPr 41)) hbB
 have G2 : Blk _ (w.heap.size + 1) 41 zPr := Blk.new1 w (.cells zPr 41) _ _
 have G0 : Blk _ w.heap.size 41 zPr := (Blk.new w 41 zPr).alloc (.cells zPr 41)
 clear R
 go_enter Tryz.func19, Tryz.ntmps19
 go_wp2_with (first
  | (refine wpList_load_mid rfl 41 (.tmp 16) rfl b (off + n * 18) rfl (prCells p) _ R1 Tryz.underlying41 rfl (by kernel_rfl) ?_)
  | (refine wpList_stG rfl 41 (.tmp 4) (.tmp 17) rfl (w.heap.size + 1) _ (prCells p).toArray G2 rfl rfl (by kernel_rfl) rfl (prCells_all p) ?_; intro W1 B1 P1; have V1 := P1.blk ((hVz.out.alloc (.cells zPr 41)).alloc (.cells zPr 41)) (by omega); have k1 : W1.cell? ⟨V, 0, none⟩ = some (.slice (some ⟨b, off, none⟩) (n + 1) c0) := V1.cell 0; have f1 : W1.frozen? ⟨V, 0, none⟩ = false := V1.frozen 0; have G01 := Lib.hid (P1.blk G0 (by omega)); have B1' := Lib.hid B1; have P1' := Lib.hid P1; have V1' := Lib.hid V1; have B1s : W1.heap.size = w.heap.size + 2 := (by rw [P1.size]; simp); clear B1 P1 V1 k0 f0 G0 G2 R1)
  | (refine wpList_load_row rfl 41 (.tmp 4) rfl (w.heap.size + 1) rfl 41 (prCells p).toArray (0, 0) _ (B1'.out.far (p := ⟨V, 0, none⟩) (show w.heap.size + 1 ≠ V by omega) _) Tryz.underlying41 rfl (by kernel_rfl) ?_)
  | (refine wpList_stG rfl 41 (.tmp 2) (.tmp 27) rfl w.heap.size _ (prCells p).toArray (G01.out.far (p := ⟨V, 0, none⟩) (show w.heap.size ≠ V by omega) _) rfl rfl (by kernel_rfl) rfl (prCells_all p) ?_; intro W2 B2 P2))
 have hk : ∀ k, k < w.heap.size → k ≠ V → W2.heap[k]? = w.heap[k]? := fun k hk hne => by
  refine (P2.2.2.2.2 k (by omega)).trans ?_
  refine (Below.heap_setCell W1 ⟨V, 0, none⟩ _ k hne).trans ?_
  refine (P1'.out.2.2.2.2 k (by omega)).trans ?_
  exact (Below.heap_alloc _ _ k (by simp; omega)).trans (Below.heap_alloc w _ k hk)
 have hO : ∀ g, (Value.slice (some ⟨b, off, none⟩) (n + 1) c0).ownBlock = some g → W2.heap[g]? = w.heap[g]? := fun g hg => hk g (HO.out.lt g hg).2 (by
  obtain ⟨cur, hc⟩ := HO.out.cells hg
  exact blk_ne hc hVz.out (Ne.symm hT))
 refine bodyPost_ret (results_cell_row rfl _ _ w.heap.size 41 _ (0, 0) _ rfl B2 Tryz.underlying41 rfl (by kernel_rfl)) rfl ⟨rfl, .slice (some ⟨b, off, none⟩) n c0, P2.blk (V1'.out.set_ 0 _) (by omega), ?_, rfl, ?_⟩
 ·have h := HO.out
  rw [← hn.out] at h ⊢
  refine (OwnG.pop prCells_length h).same fun g hg => hO g ?_
  exact hg
 ·refine ⟨P2.1.trans P1'.out.1, P2.2.1.trans P1'.out.2.1, P2.2.2.1.trans P1'.out.2.2.1, ?_, hk⟩
  have e1 : W2.heap.size = W1.heap.size := by rw [P2.size]; simp [World.setCell]
  omega
end Go.Proofs.YteabdeohhmbclaaGreat.Wk
