/- slices.Sort at a slice of ints: the library's contract at this program. -/
import Derived.Shelf.SortM.Plain
import Derived.Test.YteabdeohhmbclaaProg
namespace Go.Proofs.Yteabdeohhmbclaa.Wk
open Go.RowKit Go.Shelf Go.Sort

def sortR : Ren := ⟨fun x => match x with | 5 => 33 | 8 => 50 | 7 => 49 | 19 => 74 | 20 => 51 | 10 => 65 | 11 => 66 | 12 => 67 | 13 => 68 | 14 => 69 | 15 => 70 | 16 => 71 | 17 => 72 | 18 => 73 | 30 => 84 | 31 => 85 | 32 => 86 | 33 => 87 | 34 => 88 | 35 => 89 | 40 => 92 | n => n, fun x => match x with | 23 => 49 | 25 => 3 | 3 => 3 | 32 => 94 | 22 => 49 | 0 => 0 | 44 => 113 | 46 => 22 | 4 => 4 | 36 => 106 | 35 => 105 | 41 => 110 | 5 => 5 | 9 => 9 | 53 => 124 | 57 => 128 | 63 => 133 | 64 => 134 | n => n, fun x => x⟩
theorem sortLay : SlLaysM.n5 Try.prog sortR where
 mixed := rfl
 f5 := ⟨"slices.Sort[[]int,int]", by decide, Try.func33.trans (by kernel_rfl)⟩
 f7 := ⟨"slices.pdqsortOrdered[int]", by decide, Try.func49.trans (by kernel_rfl)⟩
 f8 := Try.func50.trans (by kernel_rfl)
 f10 := ⟨"slices.insertionSortOrdered[int]", by decide, Try.func65.trans (by kernel_rfl)⟩
 f11 := ⟨"slices.heapSortOrdered[int]", by decide, Try.func66.trans (by kernel_rfl)⟩
 f12 := ⟨"slices.breakPatternsOrdered[int]", by decide, Try.func67.trans (by kernel_rfl)⟩
 f13 := ⟨"slices.choosePivotOrdered[int]", by decide, Try.func68.trans (by kernel_rfl)⟩
 f14 := ⟨"slices.reverseRangeOrdered[int]", by decide, Try.func69.trans (by kernel_rfl)⟩
 f15 := ⟨"slices.partialInsertionSortOrdered[int]", by decide, Try.func70.trans (by kernel_rfl)⟩
 f16 := ⟨"cmp.Less[int]", by decide, Try.func71.trans (by kernel_rfl)⟩
 f17 := ⟨"slices.partitionEqualOrdered[int]", by decide, Try.func72.trans (by kernel_rfl)⟩
 f18 := ⟨"slices.partitionOrdered[int]", by decide, Try.func73.trans (by kernel_rfl)⟩
 f19 := Try.func74.trans (by kernel_rfl)
 f20 := Try.func51.trans (by kernel_rfl)
 f30 := ⟨"slices.siftDownOrdered[int]", by decide, Try.func84.trans (by kernel_rfl)⟩
 f31 := Try.func85.trans (by kernel_rfl)
 f32 := Try.func86.trans (by kernel_rfl)
 f33 := ⟨"slices.medianAdjacentOrdered[int]", by decide, Try.func87.trans (by kernel_rfl)⟩
 f34 := ⟨"slices.medianOrdered[int]", by decide, Try.func88.trans (by kernel_rfl)⟩
 f35 := ⟨"cmp.isNaN[int]", by decide, Try.func89.trans (by kernel_rfl)⟩
 f40 := ⟨"slices.order2Ordered[int]", by decide, Try.func92.trans (by kernel_rfl)⟩
 t0 := Try.underlying0
 a0 := Try.isAgg0
 z0 := Try.sizeOf0
 v0 := Try.zeroValue0
 t3 := Try.underlying3
 a3 := Try.isAgg3
 z3 := Try.sizeOf3
 v3 := Try.zeroValue3
 t4 := Try.underlying4
 a4 := Try.isAgg4
 z4 := Try.sizeOf4
 v4 := Try.zeroValue4
 t5 := Try.underlying5
 a5 := Try.isAgg5
 z5 := Try.sizeOf5
 v5 := Try.zeroValue5
 t9 := Try.underlying9
 a9 := Try.isAgg9
 z9 := Try.sizeOf9
 v9 := Try.zeroValue9
 t22 := Try.underlying49
 a22 := Try.isAgg49
 z22 := Try.sizeOf49
 v22 := Try.zeroValue49
 t23 := Try.underlying49
 a23 := Try.isAgg49
 z23 := Try.sizeOf49
 v23 := Try.zeroValue49
 t25 := Try.underlying3
 a25 := Try.isAgg3
 z25 := Try.sizeOf3
 v25 := Try.zeroValue3
 t32 := Try.underlying94
 a32 := Try.isAgg94
 z32 := Try.sizeOf94
 v32 := Try.zeroValue94
 t35 := Try.underlying105
 a35 := Try.isAgg105
 z35 := Try.sizeOf105
 v35 := Try.zeroValue105
 t36 := Try.underlying106
 a36 := Try.isAgg106
 z36 := Try.sizeOf106
 v36 := Try.zeroValue106
 t41 := Try.underlying110
 a41 := Try.isAgg110
 z41 := Try.sizeOf110
 v41 := Try.zeroValue110
 t44 := Try.underlying113
 a44 := Try.isAgg113
 z44 := Try.sizeOf113
 v44 := Try.zeroValue113
 t46 := Try.underlying22
 a46 := Try.isAgg22
 z46 := Try.sizeOf22
 v46 := Try.zeroValue22
 t53 := Try.underlying124
 a53 := Try.isAgg124
 z53 := Try.sizeOf124
 v53 := Try.zeroValue124
 t57 := Try.underlying128
 a57 := Try.isAgg128
 z57 := Try.sizeOf128
 v57 := Try.zeroValue128
 t63 := Try.underlying133
 a63 := Try.isAgg133
 z63 := Try.sizeOf133
 v63 := Try.zeroValue133
 t64 := Try.underlying134
 a64 := Try.isAgg134
 z64 := Try.sizeOf134
 v64 := Try.zeroValue134
theorem sort_calls (blk off cap : Nat) (zs : List Int) (w : World) (hH : Holds (Value.int .i64) w blk off zs.toArray) (hblk : blk < w.heap.size) (hsz : zs.length < 4611686018427387904) :
  Calls Try.prog 33 #[.slice (some ⟨blk, off, none⟩) zs.length cap] w fun e w' =>
   e = .returned (.tuple #[]) ∧ ∃ n os, w' = grow (putRow (Value.int .i64) (Sort.ahead w n) blk off (zs.mergeSort fun x y => decide (x ≤ y)).toArray) os :=
 AnyM.slices_Sort_int sortLay blk off cap zs w hH hblk hsz
end Go.Proofs.Yteabdeohhmbclaa.Wk
