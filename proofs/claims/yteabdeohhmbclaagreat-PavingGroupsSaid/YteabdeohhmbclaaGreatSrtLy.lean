/- slices.Sort at a slice of ints: the library's contract at this program. -/
import Derived.Shelf.SortM.Plain
import Derived.Test.YteabdeohhmbclaaGreatProg
namespace Go.Proofs.YteabdeohhmbclaaGreat.Wk
open Go.RowKit Go.Shelf Go.Sort

def sortR : Ren := ⟨fun x => match x with | 5 => 12 | 8 => 24 | 7 => 23 | 19 => 47 | 20 => 33 | 10 => 38 | 11 => 39 | 12 => 40 | 13 => 41 | 14 => 42 | 15 => 43 | 16 => 44 | 17 => 45 | 18 => 46 | 30 => 63 | 31 => 64 | 32 => 65 | 33 => 66 | 34 => 67 | 35 => 68 | 40 => 79 | n => n, fun x => match x with | 23 => 26 | 25 => 3 | 3 => 3 | 32 => 67 | 22 => 26 | 0 => 0 | 44 => 93 | 46 => 30 | 4 => 4 | 36 => 85 | 35 => 84 | 41 => 90 | 5 => 5 | 9 => 9 | 53 => 103 | 57 => 107 | 63 => 112 | 64 => 113 | n => n, fun x => x⟩
theorem sortLay : SlLaysM.n5 Tryz.prog sortR where
 mixed := rfl
 f5 := ⟨"slices.Sort[[]int,int]", by decide, Tryz.func12.trans (by kernel_rfl)⟩
 f7 := ⟨"slices.pdqsortOrdered[int]", by decide, Tryz.func23.trans (by kernel_rfl)⟩
 f8 := Tryz.func24.trans (by kernel_rfl)
 f10 := ⟨"slices.insertionSortOrdered[int]", by decide, Tryz.func38.trans (by kernel_rfl)⟩
 f11 := ⟨"slices.heapSortOrdered[int]", by decide, Tryz.func39.trans (by kernel_rfl)⟩
 f12 := ⟨"slices.breakPatternsOrdered[int]", by decide, Tryz.func40.trans (by kernel_rfl)⟩
 f13 := ⟨"slices.choosePivotOrdered[int]", by decide, Tryz.func41.trans (by kernel_rfl)⟩
 f14 := ⟨"slices.reverseRangeOrdered[int]", by decide, Tryz.func42.trans (by kernel_rfl)⟩
 f15 := ⟨"slices.partialInsertionSortOrdered[int]", by decide, Tryz.func43.trans (by kernel_rfl)⟩
 f16 := ⟨"cmp.Less[int]", by decide, Tryz.func44.trans (by kernel_rfl)⟩
 f17 := ⟨"slices.partitionEqualOrdered[int]", by decide, Tryz.func45.trans (by kernel_rfl)⟩
 f18 := ⟨"slices.partitionOrdered[int]", by decide, Tryz.func46.trans (by kernel_rfl)⟩
 f19 := Tryz.func47.trans (by kernel_rfl)
 f20 := Tryz.func33.trans (by kernel_rfl)
 f30 := ⟨"slices.siftDownOrdered[int]", by decide, Tryz.func63.trans (by kernel_rfl)⟩
 f31 := Tryz.func64.trans (by kernel_rfl)
 f32 := Tryz.func65.trans (by kernel_rfl)
 f33 := ⟨"slices.medianAdjacentOrdered[int]", by decide, Tryz.func66.trans (by kernel_rfl)⟩
 f34 := ⟨"slices.medianOrdered[int]", by decide, Tryz.func67.trans (by kernel_rfl)⟩
 f35 := ⟨"cmp.isNaN[int]", by decide, Tryz.func68.trans (by kernel_rfl)⟩
 f40 := ⟨"slices.order2Ordered[int]", by decide, Tryz.func79.trans (by kernel_rfl)⟩
 t0 := Tryz.underlying0
 a0 := Tryz.isAgg0
 z0 := Tryz.sizeOf0
 v0 := Tryz.zeroValue0
 t3 := Tryz.underlying3
 a3 := Tryz.isAgg3
 z3 := Tryz.sizeOf3
 v3 := Tryz.zeroValue3
 t4 := Tryz.underlying4
 a4 := Tryz.isAgg4
 z4 := Tryz.sizeOf4
 v4 := Tryz.zeroValue4
 t5 := Tryz.underlying5
 a5 := Tryz.isAgg5
 z5 := Tryz.sizeOf5
 v5 := Tryz.zeroValue5
 t9 := Tryz.underlying9
 a9 := Tryz.isAgg9
 z9 := Tryz.sizeOf9
 v9 := Tryz.zeroValue9
 t22 := Tryz.underlying26
 a22 := Tryz.isAgg26
 z22 := Tryz.sizeOf26
 v22 := Tryz.zeroValue26
 t23 := Tryz.underlying26
 a23 := Tryz.isAgg26
 z23 := Tryz.sizeOf26
 v23 := Tryz.zeroValue26
 t25 := Tryz.underlying3
 a25 := Tryz.isAgg3
 z25 := Tryz.sizeOf3
 v25 := Tryz.zeroValue3
 t32 := Tryz.underlying67
 a32 := Tryz.isAgg67
 z32 := Tryz.sizeOf67
 v32 := Tryz.zeroValue67
 t35 := Tryz.underlying84
 a35 := Tryz.isAgg84
 z35 := Tryz.sizeOf84
 v35 := Tryz.zeroValue84
 t36 := Tryz.underlying85
 a36 := Tryz.isAgg85
 z36 := Tryz.sizeOf85
 v36 := Tryz.zeroValue85
 t41 := Tryz.underlying90
 a41 := Tryz.isAgg90
 z41 := Tryz.sizeOf90
 v41 := Tryz.zeroValue90
 t44 := Tryz.underlying93
 a44 := Tryz.isAgg93
 z44 := Tryz.sizeOf93
 v44 := Tryz.zeroValue93
 t46 := Tryz.underlying30
 a46 := Tryz.isAgg30
 z46 := Tryz.sizeOf30
 v46 := Tryz.zeroValue30
 t53 := Tryz.underlying103
 a53 := Tryz.isAgg103
 z53 := Tryz.sizeOf103
 v53 := Tryz.zeroValue103
 t57 := Tryz.underlying107
 a57 := Tryz.isAgg107
 z57 := Tryz.sizeOf107
 v57 := Tryz.zeroValue107
 t63 := Tryz.underlying112
 a63 := Tryz.isAgg112
 z63 := Tryz.sizeOf112
 v63 := Tryz.zeroValue112
 t64 := Tryz.underlying113
 a64 := Tryz.isAgg113
 z64 := Tryz.sizeOf113
 v64 := Tryz.zeroValue113
theorem sort_calls (blk off cap : Nat) (zs : List Int) (w : World) (hH : Holds (Value.int .i64) w blk off zs.toArray) (hblk : blk < w.heap.size) (hsz : zs.length < 4611686018427387904) :
  Calls Tryz.prog 12 #[.slice (some ⟨blk, off, none⟩) zs.length cap] w fun e w' =>
   e = .returned (.tuple #[]) ∧ ∃ n os, w' = grow (putRow (Value.int .i64) (Sort.ahead w n) blk off (zs.mergeSort fun x y => decide (x ≤ y)).toArray) os :=
 AnyM.slices_Sort_int sortLay blk off cap zs w hH hblk hsz
end Go.Proofs.YteabdeohhmbclaaGreat.Wk
