/- Plain words: numbers of 64 bits times powers of two, intervals, and what the program makes of them; nothing of Go. -/
namespace Go.Proofs.Pl

@[ext] structure Num where
 k : Int
 n : Bool
 m : Int
 e : Int
deriving DecidableEq
@[ext] structure Iv where
 emp : Bool
 lo : Num
 hi : Num
deriving DecidableEq

def zero : Num := ⟨0, false, 0, 0⟩
def infN (neg : Bool) : Num := ⟨2, neg, 0, 0⟩
def mayN (x : Num) : Bool :=
 if x.k = 0 then (!x.n && x.m == 0 && x.e == 0) else if x.k = 1 then decide (9223372036854775808 ≤ x.m ∧ -1048576 ≤ x.e ∧ x.e ≤ 1048576) else decide (x.k = 2 ∧ x.m = 0 ∧ x.e = 0)
def fairN (x : Num) : Num := if mayN x = true then x else zero
def signF (x : Num) : Int := if x.k = 0 then 0 else if x.n = true then -1 else 1
def signN (x : Num) : Int := signF (fairN x)
def farN (a b : Num) : Bool := if a.k = b.k then (if a.e = b.e then decide (b.m < a.m) else decide (b.e < a.e)) else decide (b.k < a.k)
def cmpF (a b : Num) : Int :=
 if signN a < signN b then -1 else if signN b < signN a then 1 else if farN a b = true then signN a else if farN b a = true then -(signN a) else 0
def cmpN (a b : Num) : Int := cmpF (fairN a) (fairN b)
def negF (x : Num) : Num := ⟨x.k, (!(x.k == 0) && !x.n), x.m, x.e⟩
def negN (x : Num) : Num := negF (fairN x)

def noneI : Iv := ⟨true, zero, zero⟩
def allI : Iv := ⟨false, infN true, infN false⟩
def mayI (x : Iv) : Bool :=
 if x.emp = true then decide (x = noneI) else mayN x.lo && mayN x.hi && decide (cmpN x.lo x.hi ≤ 0) && !(decide (x.lo = infN false)) && !(decide (x.hi = infN true))
def fairI (x : Iv) : Iv := if mayI x = true then x else noneI
def makeI (a b : Num) : Iv := fairI ⟨false, negN (negN a), negN (negN b)⟩
def pointI (a : Num) : Iv := makeI a a
def withinF (a b : Iv) : Bool := a.emp || (!b.emp && decide (cmpN b.lo a.lo ≤ 0) && decide (cmpN a.hi b.hi ≤ 0))
def withinI (a b : Iv) : Bool := withinF (fairI a) (fairI b)
def hasI (x : Iv) (n : Num) : Bool := !(pointI n).emp && withinI (pointI n) x

def leastStep (out n : Num) : Num := if cmpN n out < 0 then fairN n else out
def mostStep (out n : Num) : Num := if 0 < cmpN n out then fairN n else out
def leastN (l : List Num) : Num := l.foldl leastStep (infN false)
def mostN (l : List Num) : Num := l.foldl mostStep (infN true)
def fulls (l : List Iv) : List Iv := (l.map fairI).filter fun x => !x.emp
def endsAll (l : List Iv) : Bool := (l.map fairI).all fun x => !x.emp
def meetI (l : List Iv) : Iv := if endsAll l = true then makeI (mostN ((fulls l).map (·.lo))) (leastN ((fulls l).map (·.hi))) else noneI
def hullI (l : List Iv) : Iv := if fulls l = [] then noneI else makeI (leastN ((fulls l).map (·.lo))) (mostN ((fulls l).map (·.hi)))

/-- the bits of k, n of them -/
def bq (n k : Nat) : Array Bool := ((List.range n).map fun i => k.testBit i).toArray
theorem pA {α : Type} (l : List α) (i : Nat) (a : α) : l.toArray.setIfInBounds i a = (l.set i a).toArray := List.setIfInBounds_toArray l i a
theorem pB {α : Type} (x : α) (l : List α) (a : α) : (x :: l).set 0 a = a :: l := rfl
theorem pC {α : Type} (x : α) (l : List α) (i : Nat) (a : α) : (x :: l).set (i + 1) a = x :: l.set i a := rfl
end Go.Proofs.Pl
