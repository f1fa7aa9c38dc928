/- A law of 'for .. := range f' whose iterator writes boxes of its own, of types Ts, between two rounds. -/
import Derived.Test.YteabdeohhmbclaaGreatTuXy
import Derived.RangeFuncNested
import Derived.RangeFuncBound
import Derived.RangeFuncCalls
import Derived.RangeFuncLeaves
import Derived.OwnWalkIn
import Derived.TacticsInMore
import Derived.LoopNIn
import Derived.LoopIn
import Derived.Stop.RegionWithIn
import Derived.Test.YteabdeohhmbclaaGreatPureAy
import Derived.Test.YteabdeohhmbclaaGreatIvYy
import Derived.Test.YteabdeohhmbclaaGreatAwAy
import Derived.Test.YteabdeohhmbclaaGreatBsAy
namespace Go.Proofs.YteabdeohhmbclaaGreat.Wk
open Go.RowKit Go.Proofs.Pl Go.Proofs.YteabdeohhmbclaaGreatW.PrintLast
set_option linter.unusedSimpArgs false
set_option linter.unusedVariables false

def IsBox (Ts : List TypeId) (W : World) (r : Nat) : Prop := ∃ cs t, W.heap[r]? = some (.cells cs t) ∧ t ∈ Ts
def StayT {β : Type} (B : Nat) (Ts : List TypeId) (J : β → World → Prop) : Prop :=
 ∀ s X Y row, J s X → X.grownBy Y row → (∀ r, row = some r → B ≤ r ∧ IsBox Ts X r) → J s Y
def StayO {β : Type} (B : Nat) (Ts : List TypeId) (J : β → World → Prop) : Prop :=
 ∀ s X Y row, J s X → X.grownBy Y row → (∀ r, row = some r → B ≤ r ∧ (IsBox Ts X r ∨ ∃ o : Obj, X.heap[r]? = some o ∧ o.isCells = false)) → J s Y
theorem StayO.rec {β : Type} {B : Nat} {Ts : List TypeId} {J : β → World → Prop} (h : StayO B Ts J) {s : β} {X : World} {l : Nat} {o : Obj} (o' : Obj) (hs : J s X) (hB : B ≤ l) (hl : X.heap[l]? = some o) (ho : o.isCells = false) : J s (X.putObj l o') :=
 h s X _ (some l) hs (grownBy_putObj' X l o') fun r e => by cases e; exact ⟨hB, .inr ⟨o, hl, ho⟩⟩
theorem StayO.made {β : Type} {B : Nat} {Ts : List TypeId} {J : β → World → Prop} (h : StayO B Ts J) {s : β} {X : World} (o : Obj) (hs : J s X) : J s (X.alloc o) :=
 h s X _ none hs (World.grownBy_alloc X o none) fun r e => by cases e
def SeqT {α : Type} (F : Fence) (n : Nat) (P : Program) (g : Nat) (lb : Array Value) (encs : α → Array Value) (Kp : World → World → Prop) (Ts : List TypeId) (S Sp : List α → Prop) (w : World) : Prop :=
 ∀ (l : Nat) (J Jx : List α → World → Prop) (W : World), Below w.heap.size w W → StayT W.heap.size Ts J → StayT W.heap.size Ts Jx →
  (∀ pre x W1, J pre W1 → Sp (pre ++ [x]) → YieldAt F (n - 1) P l (encs x) W1 fun e W' =>
   (e = .returned (.b true) ∧ J (pre ++ [x]) W' ∧ Kp W1 W') ∨ (e = .returned (.b false) ∧ Jx (pre ++ [x]) W')) →
  J [] W →
  CallsIn F n P g (#[.func (.yield l) #[] #[]] ++ lb) W fun e W' => (∃ v, e = .returned v) ∧ ((∃ xs, S xs ∧ J xs W') ∨ (∃ pre, Sp pre ∧ Jx pre W'))
theorem other_box {X Y : World} {Ts : List TypeId} {row : Option Nat} {l : Nat} {o : Obj} (hg : X.grownBy Y row) (hr : ∀ r, row = some r → IsBox Ts X r) (hl : X.heap[l]? = some o) (ho : o.isCells = false) : Y.heap[l]? = some o := by
 refine (hg.block l (Array.getElem?_eq_some_iff.1 hl).1 fun e => ?_).trans hl
 obtain ⟨cs, t, h, _⟩ := hr l e.symm
 rw [h] at hl
 cases hl
 cases ho
end Go.Proofs.YteabdeohhmbclaaGreat.Wk
namespace Go.Proofs.YteabdeohhmbclaaGreat.Wk
open Go.RowKit Go.Proofs.Pl Go.Proofs.YteabdeohhmbclaaGreatW.PrintLast
theorem wpListIn_loadM {F : Fence} {n : Nat} {ops : Array Oper} {rest : List Oper} {o : Oper} {a : Act} {W : World} {Q : Exit → Act → World → Prop} (hgd : o.guard = none) (ty : TypeId) (p : Operand) (ho : o.op = .load ty p)
  (b off : Nat) (hp : a.eval p = .pointer (some ⟨b, off, none⟩)) (cs : List Value) (d : TypeDesc) (hc : W.rangeAt b off cs)
  (hu : Tryz.prog.underlying ty = some d) (hd : d.isRow = true) (hi : (Tryz.prog.info? ty).map (·.size) = some cs.length)
  (h : wpListIn F n Tryz.prog ops Q rest (a.put o.dst (.agg cs.toArray)) W) : wpListIn F n Tryz.prog ops Q (o :: rest) a W :=
 wpListIn_plain hgd fun K hK => by
  refine ⟨fun f hf => ?_, ?_⟩
  ·unfold Oper.about at hf
   simp [ho] at hf
  ·rw [Oper.semAt_eq _ _ _ (by intro c e; rw [ho] at e; cases e)]
   unfold execOp
   simp only [ho, hp, Instr.loadAt, Instr.sureAddr, Sem.run_bind, Sem.run_pure, Result.andThen_ok, run_loadVar_mid W b off ty cs d hc hu hd hi]
   exact hK _ _ h
theorem wpListIn_storeM {F : Fence} {n : Nat} {ops : Array Oper} {rest : List Oper} {o : Oper} {a : Act} {W : World} {Q : Exit → Act → World → Prop} (hgd : o.guard = none) (ty : TypeId) (p q : Operand) (ho : o.op = .store ty p q)
  (g : Nat) (zs cs : Array Value) (hB : Blk W g ty zs) (hp : a.eval p = .pointer (some ⟨g, 0, none⟩)) (hq : a.eval q = .agg cs) (hi : (Tryz.prog.info? ty).map (·.size) = some cs.size) (hz : zs.size = cs.size) (h1 : cs.all (·.oneCell') = true)
  (h : ∀ W1, Blk W1 g ty cs → Put W W1 g → wpListIn F n Tryz.prog ops Q rest (a.put o.dst undef) W1) : wpListIn F n Tryz.prog ops Q (o :: rest) a W :=
 wpListIn_plain hgd fun K hK => by
  refine ⟨fun f hf => ?_, ?_⟩
  ·unfold Oper.about at hf
   simp [ho] at hf
  ·rw [Oper.semAt_eq _ _ _ (by intro c e; rw [ho] at e; cases e)]
   unfold execOp
   simp only [ho, hp, hq, Instr.storeAt, Instr.sureAddr, Sem.run_bind, Sem.run_pure, Result.andThen_ok, run_storeVar_row W g ty ty zs cs hB hi hz h1]
   exact hK _ _ (h _ (setRow_heap _ g _ cs ty (0, 0) hB) (Put.row W g cs))
theorem wpIn_join {F : Fence} {n : Nat} {c : Code} {a : Act} {W : World} {Q : Exit → Act → World → Prop} (Fw : World → Prop) (a' : Act)
  (h1 : c.wpIn F n Tryz.prog (Exit.then (fun x v => x = a' ∧ Fw v) (fun _ _ _ => False)) a W) (h2 : ∀ v, Fw v → Q .normal a' v) : c.wpIn F n Tryz.prog Q a W :=
 Code.wpIn_mono (fun e x v h => by
  cases e with
  | normal => obtain ⟨rfl, h⟩ := h; exact h2 v h
  | _ => exact False.elim h) h1
end Go.Proofs.YteabdeohhmbclaaGreat.Wk
