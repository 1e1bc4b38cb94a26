import Derived.Test.YtndiinjjbhmckaaDoorAMd
import Derived.Test.YtndiinjjbhmckaaDoorChecked
import Derived.KernelRfl
set_option linter.all false
set_option maxRecDepth 100000
namespace Go.AM.K
open Go.Proofs
def c3t5 : CC :=
  .ret
def c3t4 : CC :=
  .seq (.par [(⟨some 28, .load 4 true, [.t 3], none⟩, []),
     (⟨some 30, .fadr 0, [.t 4], none⟩, []),
     (⟨some 31, .load 1 false, [.t 30], none⟩, []),
     (⟨some 32, .fadr 1, [.t 4], none⟩, []),
     (⟨some 33, .load 1 false, [.t 32], none⟩, []),
     (⟨some 34, .fadr 2, [.t 4], none⟩, []),
     (⟨some 35, .load 1 false, [.t 34], none⟩, []),
     (⟨some 36, .mv, [.t 9], none⟩, []),
     (⟨some 39, .load 4 true, [.t 3], none⟩, []),
     (⟨some 41, .mv, [.t 2], none⟩, []),
     (⟨some 42, .fadr 1, [.t 4], none⟩, []),
     (⟨some 43, .load 1 false, [.t 42], none⟩, []),
     (⟨some 44, .fadr 2, [.t 4], none⟩, []),
     (⟨some 45, .load 1 false, [.t 44], none⟩, []),
     (⟨some 46, .mv, [.t 9], none⟩, []),
     (⟨some 29, .call 10, [.t 28], none⟩, [⟨some 31, .load 1 false, [.t 30], none⟩, ⟨some 33, .load 1 false, [.t 32], none⟩, ⟨some 35, .load 1 false, [.t 34], none⟩, ⟨some 39, .load 4 true, [.t 3], none⟩, ⟨some 43, .load 1 false, [.t 42], none⟩, ⟨some 45, .load 1 false, [.t 44], none⟩]),
     (⟨some 37, .call 9, [.t 29, .t 31, .t 33, .t 35, .t 36], none⟩, [⟨some 39, .load 4 true, [.t 3], none⟩, ⟨some 43, .load 1 false, [.t 42], none⟩, ⟨some 45, .load 1 false, [.t 44], none⟩]),
     (⟨some 38, .strOf, [.t 37], none⟩, []),
     (⟨some 40, .call 10, [.t 39], none⟩, [⟨some 43, .load 1 false, [.t 42], none⟩, ⟨some 45, .load 1 false, [.t 44], none⟩, ⟨some 38, .strOf, [.t 37], none⟩]),
     (⟨some 47, .call 9, [.t 40, .t 41, .t 43, .t 45, .t 46], none⟩, [⟨some 38, .strOf, [.t 37], none⟩]),
     (⟨some 48, .strOf, [.t 47], none⟩, []),
     (⟨some 49, .bin .eql, [.t 38, .t 48], none⟩, []),
     (⟨some 6, .mv, [.t 49], none⟩, [])] [6]) c3t5
def c3t3 : CC :=
  .seq (.ops [⟨some 26, .load 4 true, [.t 4], none⟩,
     ⟨some 27, .call 8, [.t 26], none⟩,
     ⟨some 9, .mv, [.t 27], none⟩] [2, 3, 4, 9]) c3t4
def c3L0 : CC :=
  .loop (.seq (.ops [⟨some 15, .bin .lss, [.t 14, .t 13], none⟩] [2, 3, 4, 12, 13, 14, 15])
   (.seq (.cond (.t 15)
      (.skip)
      (.exit 0))
   (.seq (.block 1 (.seq (.ops [⟨some 16, .iadrS 1, [.t 12, .t 14], none⟩,
         ⟨some 17, .load 1 false, [.t 16], none⟩,
         ⟨some 8, .mv, [.t 17], none⟩] [2, 3, 4, 8, 12, 13, 14])
      (.ops [⟨some 18, .mv, [.t 2], none⟩,
        ⟨some 19, .mv, [.t 8], none⟩,
        ⟨some 20, .fadr 0, [.t 4], none⟩,
        ⟨some 21, .load 1 false, [.t 20], none⟩,
        ⟨some 22, .mv, [.t 8], none⟩,
        ⟨some 23, .call 7, [.t 21, .t 22], none⟩,
        ⟨some 24, .call 6, [.t 18, .t 19, .t 23], none⟩,
        ⟨some 2, .mv, [.t 24], none⟩] [2, 3, 4, 12, 13, 14])))
   (.ops [⟨some 25, .bin .add, [.t 14, .k (.i .i64 1)], none⟩,
     ⟨some 14, .mv, [.t 25], none⟩] [2, 3, 4, 12, 13, 14]))))
def c3t2 : CC :=
  .seq (.seq (.ops [⟨some 12, .buildSlice 1, [.k (.i .i64 0), .k (.i .i64 3), .k (.i .i64 4), .k (.i .i64 12), .k (.i .i64 13)], none⟩,
      ⟨some 13, .lenSl, [.t 12], none⟩,
      ⟨some 14, .mv, [.k (.i .i64 0)], none⟩] [2, 3, 4, 12, 13, 14])
   (.block 0 (c3L0))) c3t3
def c3t1 : CC :=
  .seq (.seq (.ops [⟨some 10, .call 5, [], none⟩,
      ⟨some 11, .not, [.t 10], none⟩] [2, 3, 4, 11])
   (.cond (.t 11)
     (.seq (.ops [⟨some 6, .mv, [.k (.b false)], none⟩] [6])
     (.ret))
     (.skip))) c3t2
def c3 : CC :=
  .seq (.ops [⟨some 3, .box, [.t 0], none⟩,
     ⟨some 4, .box, [.t 1], none⟩,
     ⟨some 6, .mv, [.k (.b false)], none⟩] [2, 3, 4]) c3t1
def r3 : List RV := [.t 6]
theorem e3 : compF Tryd.prog 3 [(9, [6]), (8, [2, 3, 4, 9]), (7, [2, 3, 4, 12, 13, 14]), (6, [2, 3, 4, 12, 13, 14]), (5, [2, 3, 4, 8, 12, 13, 14]), (4, [2, 3, 4, 12, 13, 14, 15]), (3, [2, 3, 4, 12, 13, 14]), (2, [6]), (1, [2, 3, 4, 11]), (0, [2, 3, 4])] = some (c3, r3, 50) := by kernel_rfl
def c4t8 : CC :=
  .ret
def c4t7 : CC :=
  .seq (.ops [⟨some 59, .mv, [.t 7], none⟩,
     ⟨some 60, .strOf, [.t 59], none⟩,
     ⟨some 61, .mv, [.t 8], none⟩,
     ⟨some 62, .bin .eql, [.t 60, .t 61], none⟩,
     ⟨some 4, .mv, [.t 62], none⟩] [4]) c4t8
def c4L0 : CC :=
  .loop (.seq (.ops [⟨some 21, .bin .lss, [.t 20, .t 19], none⟩] [3, 5, 6, 7, 8, 18, 19, 20, 21])
   (.seq (.cond (.t 21)
      (.skip)
      (.exit 0))
   (.seq (.block 1 (.seq (.ops [⟨some 22, .mv, [.t 20], none⟩,
         ⟨some 23, .iadrS 1, [.t 18, .t 20], none⟩,
         ⟨some 24, .load 1 false, [.t 23], none⟩,
         ⟨some 9, .mv, [.t 22], none⟩,
         ⟨some 10, .mv, [.t 24], none⟩] [3, 5, 6, 7, 8, 9, 10, 18, 19, 20])
      (.seq (.seq (.ops [⟨some 25, .mv, [.t 9], none⟩,
          ⟨some 26, .bin .geq, [.t 25, .k (.i .i64 100)], none⟩] [3, 5, 6, 7, 8, 10, 18, 19, 20, 26])
       (.cond (.t 26)
         (.exit 0)
         (.skip)))
      (.seq (.ops [⟨some 27, .mv, [.t 7], none⟩,
         ⟨some 28, .mv, [.t 10], none⟩,
         ⟨some 29, .build [.i .i64 0, .i .u8 0, .b false, .b false] [(1, 1)], [.t 28], none⟩,
         ⟨some 30, .mv, [.t 6], none⟩,
         ⟨some 31, .fadr 1, [.t 3], none⟩,
         ⟨some 32, .load 1 false, [.t 31], none⟩,
         ⟨some 33, .fadr 2, [.t 3], none⟩,
         ⟨some 34, .load 1 false, [.t 33], none⟩,
         ⟨some 35, .mv, [.t 5], none⟩,
         ⟨some 36, .call 9, [.t 29, .t 30, .t 32, .t 34, .t 35], none⟩,
         ⟨some 37, .append 1 1, [.t 27, .t 36], none⟩,
         ⟨some 7, .mv, [.t 37], none⟩] [3, 5, 6, 7, 8, 10, 18, 19, 20])
      (.seq (.ops [⟨some 38, .mv, [.t 10], none⟩,
         ⟨some 39, .bin .geq, [.t 38, .k (.i .u8 32)], none⟩,
         ⟨some 40, .mv, [.t 39], none⟩,
         ⟨some 41, .mv, [.t 10], some (40, true, true)⟩,
         ⟨some 42, .bin .leq, [.t 41, .k (.i .u8 126)], some (40, true, true)⟩,
         ⟨some 43, .pick, [.t 40, .t 42, .k (.b false)], none⟩,
         ⟨some 44, .mv, [.t 43], none⟩,
         ⟨some 45, .mv, [.t 10], some (44, false, true)⟩,
         ⟨some 46, .bin .geq, [.t 45, .k (.i .u8 160)], some (44, false, true)⟩,
         ⟨some 47, .mv, [.t 46], some (44, false, true)⟩,
         ⟨some 48, .fadr 1, [.t 3], some (47, true, true)⟩,
         ⟨some 49, .load 1 false, [.t 48], some (47, true, true)⟩,
         ⟨some 50, .bin .geq, [.t 49, .k (.i .i64 2)], some (47, true, true)⟩,
         ⟨some 51, .pick, [.t 47, .t 50, .k (.b false)], some (44, false, true)⟩,
         ⟨some 52, .pick, [.t 44, .k (.b true), .t 51], none⟩] [3, 5, 6, 7, 8, 10, 18, 19, 20, 52])
      (.cond (.t 52)
        (.ops [⟨some 53, .mv, [.t 8], none⟩,
          ⟨some 54, .mv, [.t 10], none⟩,
          ⟨some 55, .buildSlice 1, [.t 54], none⟩,
          ⟨some 56, .strOf, [.t 55], none⟩,
          ⟨some 57, .bin .add, [.t 53, .t 56], none⟩,
          ⟨some 8, .mv, [.t 57], none⟩] [3, 5, 6, 7, 8, 18, 19, 20])
        (.skip)))))))
   (.ops [⟨some 58, .bin .add, [.t 20, .k (.i .i64 1)], none⟩,
     ⟨some 20, .mv, [.t 58], none⟩] [3, 5, 6, 7, 8, 18, 19, 20]))))
def c4t6 : CC :=
  .seq (.seq (.ops [⟨some 18, .mv, [.t 0], none⟩,
      ⟨some 19, .lenSl, [.t 18], none⟩,
      ⟨some 20, .mv, [.k (.i .i64 0)], none⟩] [3, 5, 6, 7, 8, 18, 19, 20])
   (.block 0 (c4L0))) c4t7
def c4t5 : CC :=
  .seq (.ops [⟨some 8, .mv, [.k (.s [])], none⟩] [0, 3, 5, 6, 7, 8]) c4t6
def c4t4 : CC :=
  .seq (.ops [⟨some 7, .mv, [.k (.c (.slice none 0 0))], none⟩] [0, 3, 5, 6, 7]) c4t5
def c4t3 : CC :=
  .seq (.ops [⟨some 15, .fadr 0, [.t 3], none⟩,
     ⟨some 16, .load 1 false, [.t 15], none⟩,
     ⟨some 17, .call 6, [.t 16, .k (.i .i64 0), .k (.b false)], none⟩,
     ⟨some 6, .mv, [.t 17], none⟩] [0, 3, 5, 6]) c4t4
def c4t2 : CC :=
  .seq (.ops [⟨some 13, .load 4 true, [.t 3], none⟩,
     ⟨some 14, .call 8, [.t 13], none⟩,
     ⟨some 5, .mv, [.t 14], none⟩] [0, 3, 5]) c4t3
def c4t1 : CC :=
  .seq (.seq (.ops [⟨some 11, .call 5, [], none⟩,
      ⟨some 12, .not, [.t 11], none⟩] [0, 3, 12])
   (.cond (.t 12)
     (.seq (.ops [⟨some 4, .mv, [.k (.b false)], none⟩] [4])
     (.ret))
     (.skip))) c4t2
def c4 : CC :=
  .seq (.ops [⟨some 3, .box, [.t 1], none⟩,
     ⟨some 4, .mv, [.k (.b false)], none⟩] [0, 3]) c4t1
def r4 : List RV := [.t 4]
theorem e4 : compF Tryd.prog 4 [(15, [4]), (14, [3, 5, 6, 7, 8, 18, 19, 20]), (13, [3, 5, 6, 7, 8, 18, 19, 20]), (12, [3, 5, 6, 7, 8, 10, 18, 19, 20, 52]), (11, [3, 5, 6, 7, 8, 10, 18, 19, 20]), (10, [3, 5, 6, 7, 8, 10, 18, 19, 20, 26]), (9, [3, 5, 6, 7, 8, 9, 10, 18, 19, 20]), (8, [3, 5, 6, 7, 8, 18, 19, 20, 21]), (7, [3, 5, 6, 7, 8, 18, 19, 20]), (6, [0, 3, 5, 6, 7, 8]), (5, [0, 3, 5, 6, 7]), (4, [0, 3, 5, 6]), (3, [0, 3, 5]), (2, [4]), (1, [0, 3, 12]), (0, [0, 3])] = some (c4, r4, 63) := by kernel_rfl
def c5t4 : CC :=
  .ret
def c5t3 : CC :=
  .seq (.par [(⟨some 4, .load 4 true, [.t 2], none⟩, []),
     (⟨some 5, .call 9, [.t 4, .k (.i .u32 0), .k (.i .i64 5), .k (.b false), .t 1], none⟩, []),
     (⟨some 6, .strOf, [.t 5], none⟩, []),
     (⟨some 7, .bin .eql, [.t 6, .k (.s [27, 91, 65])], none⟩, []),
     (⟨some 8, .mv, [.t 7], none⟩, []),
     (⟨some 9, .load 4 true, [.t 2], some (8, true, true)⟩, []),
     (⟨some 10, .call 6, [.k (.i .u32 0), .k (.i .i64 4), .k (.b true)], some (8, true, false)⟩, [⟨some 9, .load 4 true, [.t 2], some (8, true, true)⟩]),
     (⟨some 11, .call 9, [.t 9, .t 10, .k (.i .i64 5), .k (.b false), .t 1], some (8, true, false)⟩, []),
     (⟨some 12, .strOf, [.t 11], some (8, true, false)⟩, []),
     (⟨some 13, .bin .eql, [.t 12, .k (.s [27, 79, 65])], some (8, true, false)⟩, []),
     (⟨some 14, .pick, [.t 8, .t 13, .k (.b false)], none⟩, []),
     (⟨some 15, .mv, [.t 14], none⟩, []),
     (⟨some 16, .build [.i .i64 0, .i .u8 0, .b false, .b false] [(0, 1), (1, 1)], [.k (.i .i64 16), .k (.i .u8 6)], some (15, true, false)⟩, []),
     (⟨some 17, .call 9, [.t 16, .k (.i .u32 0), .k (.i .i64 5), .k (.b false), .t 1], some (15, true, false)⟩, []),
     (⟨some 18, .strOf, [.t 17], some (15, true, false)⟩, []),
     (⟨some 19, .bin .eql, [.t 18, .k (.s [27, 91, 49, 55, 126])], some (15, true, false)⟩, []),
     (⟨some 20, .pick, [.t 15, .t 19, .k (.b false)], none⟩, []),
     (⟨some 0, .mv, [.t 20], none⟩, [])] [0]) c5t4
def c5t2 : CC :=
  .seq (.ops [⟨some 3, .build [.i .i64 0, .i .u8 0, .b false, .b false] [(0, 1)], [.k (.i .i64 5)], none⟩,
     ⟨some 2, .alloc (.agg [.i .i64 0, .i .u8 0, .b false, .b false]), [], none⟩,
     ⟨none, .store 4, [.t 2, .t 3], none⟩] [1, 2]) c5t3
def c5t1 : CC :=
  .seq (.ops [⟨some 1, .alloc (.agg [.s [], .s [], .s [], .s [], .s [], .s [], .s [], .s [], .s [], .s [], .s [], .s [], .s [], .s [], .s [], .s [], .s [], .s [], .b false]), [], none⟩] [1]) c5t2
def c5 : CC :=
  .seq (.ops [⟨some 0, .mv, [.k (.b false)], none⟩] []) c5t1
def r5 : List RV := [.t 0]
theorem e5 : compF Tryd.prog 5 [(3, [0]), (2, [1, 2]), (1, [1]), (0, [])] = some (c5, r5, 21) := by kernel_rfl
def c6t3 : CC :=
  .ret
def c6t2 : CC :=
  .seq (.ops [⟨some 18, .mv, [.t 0], none⟩,
     ⟨some 19, .mv, [.t 1], none⟩,
     ⟨some 20, .bin .shl, [.k (.i .u32 1), .t 19], none⟩,
     ⟨some 21, .bin .andNot, [.t 18, .t 20], none⟩,
     ⟨some 6, .mv, [.t 21], none⟩] [6]) c6t3
def c6t1 : CC :=
  .seq (.block 0 (.seq (.ops [⟨some 8, .mv, [.t 1], none⟩,
        ⟨some 9, .call 11, [.t 8], none⟩,
        ⟨some 10, .not, [.t 9], none⟩,
        ⟨some 7, .mv, [.t 10], none⟩] [0, 1, 2, 7])
     (.cond (.t 7)
       (.seq (.ops [⟨some 11, .mv, [.t 0], none⟩,
          ⟨some 6, .mv, [.t 11], none⟩] [6])
       (.ret))
       (.seq (.ops [⟨some 13, .mv, [.t 2], none⟩,
          ⟨some 12, .mv, [.t 13], none⟩] [0, 1, 12])
       (.cond (.t 12)
         (.seq (.ops [⟨some 14, .mv, [.t 0], none⟩,
            ⟨some 15, .mv, [.t 1], none⟩,
            ⟨some 16, .bin .shl, [.k (.i .u32 1), .t 15], none⟩,
            ⟨some 17, .bin .or, [.t 14, .t 16], none⟩,
            ⟨some 6, .mv, [.t 17], none⟩] [6])
         (.ret))
         (.skip)))))) c6t2
def c6 : CC :=
  .seq (.ops [⟨some 6, .mv, [.k (.i .u32 0)], none⟩] [0, 1, 2]) c6t1
def r6 : List RV := [.t 6]
theorem e6 : compF Tryd.prog 6 [(5, [6]), (2, [6]), (4, [6]), (3, [0, 1, 12]), (1, [0, 1, 2, 7]), (0, [0, 1, 2])] = some (c6, r6, 22) := by kernel_rfl
def c7t2 : CC :=
  .ret
def c7t1 : CC :=
  .seq (.ops [⟨some 5, .mv, [.t 1], none⟩,
     ⟨some 6, .call 11, [.t 5], none⟩,
     ⟨some 7, .mv, [.t 6], none⟩,
     ⟨some 8, .mv, [.t 0], some (7, true, true)⟩,
     ⟨some 9, .mv, [.t 1], some (7, true, true)⟩,
     ⟨some 10, .bin .shr, [.t 8, .t 9], some (7, true, false)⟩,
     ⟨some 11, .bin .and, [.t 10, .k (.i .u32 1)], some (7, true, false)⟩,
     ⟨some 12, .bin .eql, [.t 11, .k (.i .u32 1)], some (7, true, false)⟩,
     ⟨some 13, .pick, [.t 7, .t 12, .k (.b false)], none⟩,
     ⟨some 4, .mv, [.t 13], none⟩] [4]) c7t2
def c7 : CC :=
  .seq (.ops [⟨some 4, .mv, [.k (.b false)], none⟩] [0, 1]) c7t1
def r7 : List RV := [.t 4]
theorem e7 : compF Tryd.prog 7 [(1, [4]), (0, [0, 1])] = some (c7, r7, 14) := by kernel_rfl
def c8t4 : CC :=
  .ret
def c8t3 : CC :=
  .seq (.ops [⟨some 14, .mv, [.t 3], none⟩,
     ⟨some 2, .mv, [.t 14], none⟩] [2]) c8t4
def c8t2 : CC :=
  .seq (.seq (.ops [⟨some 6, .fadr 3, [.t 1], none⟩,
      ⟨some 7, .load 1 false, [.t 6], none⟩,
      ⟨some 8, .lenStr, [.t 7], none⟩,
      ⟨some 9, .bin .lss, [.t 8, .k (.i .i64 2000)], none⟩] [1, 3, 9])
   (.cond (.t 9)
     (.ops [⟨some 10, .mv, [.t 3], none⟩,
       ⟨some 11, .fadr 3, [.t 1], none⟩,
       ⟨some 12, .load 1 false, [.t 11], none⟩,
       ⟨some 13, .call 12, [.t 10, .k (.b false), .k (.b false), .t 12], none⟩] [3])
     (.skip))) c8t3
def c8t1 : CC :=
  .seq (.ops [⟨some 4, .build [.s [], .s [], .s [], .s [], .s [], .s [], .s [], .s [], .s [], .s [], .s [], .s [], .s [], .s [], .s [], .s [], .s [], .s [], .b false] [], [], none⟩,
     ⟨some 5, .box, [.t 4], none⟩,
     ⟨some 3, .mv, [.t 5], none⟩] [1, 3]) c8t2
def c8 : CC :=
  .seq (.ops [⟨some 1, .box, [.t 0], none⟩,
     ⟨some 2, .mv, [.k (.c (.pointer none))], none⟩] [1]) c8t1
def r8 : List RV := [.t 2]
theorem e8 : compF Tryd.prog 8 [(4, [2]), (3, [3]), (2, [1, 3, 9]), (1, [1, 3]), (0, [1])] = some (c8, r8, 15) := by kernel_rfl
def c9t4 : CC :=
  .ret
def c9t3 : CC :=
  .seq (.par [(⟨some 32, .fadr 0, [.t 5], none⟩, []),
     (⟨some 33, .load 1 false, [.t 32], none⟩, []),
     (⟨some 35, .load 8 true, [.t 11], none⟩, []),
     (⟨some 31, .call 13, [], none⟩, [⟨some 33, .load 1 false, [.t 32], none⟩, ⟨some 35, .load 8 true, [.t 11], none⟩]),
     (⟨some 34, .idxA 17 1 false, [.t 31, .t 33], none⟩, []),
     (⟨some 36, .callv, [.t 34, .t 35], none⟩, []),
     (⟨some 10, .mv, [.t 36], none⟩, [])] [10]) c9t4
def c9t2 : CC :=
  .seq (.seq (.ops [⟨some 18, .fadr 0, [.t 5], none⟩,
      ⟨some 19, .load 1 false, [.t 18], none⟩,
      ⟨some 20, .bin .lss, [.t 19, .k (.i .i64 0)], none⟩,
      ⟨some 21, .mv, [.t 20], none⟩,
      ⟨some 22, .fadr 0, [.t 5], some (21, false, true)⟩,
      ⟨some 23, .load 1 false, [.t 22], some (21, false, true)⟩,
      ⟨some 24, .bin .gtr, [.t 23, .k (.i .i64 16)], some (21, false, true)⟩,
      ⟨some 25, .pick, [.t 21, .k (.b true), .t 24], none⟩,
      ⟨some 26, .mv, [.t 25], none⟩,
      ⟨some 27, .fadr 4, [.t 11], some (26, false, true)⟩,
      ⟨some 28, .load 1 false, [.t 27], some (26, false, true)⟩,
      ⟨some 29, .call 7, [.t 28, .k (.i .i64 0)], some (26, false, false)⟩,
      ⟨some 30, .pick, [.t 26, .k (.b true), .t 29], none⟩] [5, 11, 30])
   (.cond (.t 30)
     (.seq (.ops [⟨some 10, .mv, [.k (.c (.slice none 0 0))], none⟩] [10])
     (.ret))
     (.skip))) c9t3
def c9t1 : CC :=
  .seq (.ops [⟨some 12, .load 4 true, [.t 5], none⟩,
     ⟨some 13, .mv, [.t 1], none⟩,
     ⟨some 14, .mv, [.t 2], none⟩,
     ⟨some 15, .mv, [.t 3], none⟩,
     ⟨some 16, .mv, [.t 4], none⟩,
     ⟨some 17, .build [.i .i64 0, .i .u8 0, .b false, .b false, .i .u32 0, .i .i64 0, .b false, .c (.pointer none)] [(0, 4), (4, 1), (5, 1), (6, 1), (7, 1)], [.t 12, .t 13, .t 14, .t 15, .t 16], none⟩,
     ⟨some 11, .alloc (.agg [.i .i64 0, .i .u8 0, .b false, .b false, .i .u32 0, .i .i64 0, .b false, .c (.pointer none)]), [], none⟩,
     ⟨none, .store 8, [.t 11, .t 17], none⟩] [5, 11]) c9t2
def c9 : CC :=
  .seq (.ops [⟨some 5, .box, [.t 0], none⟩,
     ⟨some 10, .mv, [.k (.c (.slice none 0 0))], none⟩] [1, 2, 3, 4, 5]) c9t1
def r9 : List RV := [.t 10]
theorem e9 : compF Tryd.prog 9 [(4, [10]), (3, [10]), (2, [5, 11, 30]), (1, [5, 11]), (0, [1, 2, 3, 4, 5])] = some (c9, r9, 37) := by kernel_rfl
def c10t2 : CC :=
  .ret
def c10t1 : CC :=
  .seq (.ops [⟨some 3, .fadr 0, [.t 1], none⟩,
     ⟨some 4, .load 1 false, [.t 3], none⟩,
     ⟨some 5, .fadr 1, [.t 1], none⟩,
     ⟨some 6, .load 1 false, [.t 5], none⟩,
     ⟨some 7, .fadr 2, [.t 1], none⟩,
     ⟨some 8, .load 1 false, [.t 7], none⟩,
     ⟨some 9, .fadr 3, [.t 1], none⟩,
     ⟨some 10, .load 1 false, [.t 9], none⟩,
     ⟨some 11, .build [.i .i64 0, .i .u8 0, .b false, .b false] [(0, 1), (1, 1), (2, 1), (3, 1)], [.t 4, .t 6, .t 8, .t 10], none⟩,
     ⟨none, .store 4, [.t 2, .t 11], none⟩] [2]) c10t2
def c10 : CC :=
  .seq (.ops [⟨some 1, .box, [.t 0], none⟩,
     ⟨some 2, .alloc (.agg [.i .i64 0, .i .u8 0, .b false, .b false]), [], none⟩] [1, 2]) c10t1
def r10 : List RV := [.cell 2 4 true]
theorem e10 : compF Tryd.prog 10 [(1, [2]), (0, [1, 2])] = some (c10, r10, 12) := by kernel_rfl
def c11t2 : CC :=
  .ret
def c11t1 : CC :=
  .seq (.ops [⟨some 3, .mv, [.t 0], none⟩,
     ⟨some 4, .bin .geq, [.t 3, .k (.i .i64 0)], none⟩,
     ⟨some 5, .mv, [.t 4], none⟩,
     ⟨some 6, .mv, [.t 0], some (5, true, true)⟩,
     ⟨some 7, .bin .lss, [.t 6, .k (.i .i64 17)], some (5, true, true)⟩,
     ⟨some 8, .pick, [.t 5, .t 7, .k (.b false)], none⟩,
     ⟨some 2, .mv, [.t 8], none⟩] [2]) c11t2
def c11 : CC :=
  .seq (.ops [⟨some 2, .mv, [.k (.b false)], none⟩] [0]) c11t1
def r11 : List RV := [.t 2]
theorem e11 : compF Tryd.prog 11 [(1, [2]), (0, [0])] = some (c11, r11, 9) := by kernel_rfl
def c12t8 : CC :=
  .ret
def c12t7 : CC :=
  .seq (.ops [⟨some 8, .mv, [.k (.i .i64 0)], none⟩] [8]) c12t8
def c12t6 : CC :=
  .seq (.ops [⟨some 35, .mv, [.t 0], none⟩,
     ⟨some 36, .load 19 true, [.t 9], none⟩,
     ⟨some 37, .nilchk, [.t 35], none⟩,
     ⟨none, .store 19, [.t 37, .t 36], none⟩] []) c12t7
def c12t5 : CC :=
  .seq (.ops [⟨some 33, .mv, [.t 2], none⟩,
     ⟨some 34, .fadr 18, [.t 9], none⟩,
     ⟨none, .store 1, [.t 34, .t 33], none⟩] [0, 9]) c12t6
def c12t4 : CC :=
  .seq (.block 0 (.seq (.ops [⟨some 23, .mv, [.t 10], none⟩,
        ⟨some 24, .not, [.t 23], none⟩,
        ⟨some 22, .mv, [.t 24], none⟩] [0, 2, 9, 22])
     (.cond (.t 22)
       (.seq (.ops [⟨some 8, .mv, [.k (.i .i64 3)], none⟩] [8])
       (.ret))
       (.seq (.ops [⟨some 26, .call 16, [.t 9], none⟩,
          ⟨some 27, .bin .gtr, [.t 26, .k (.i .i64 804)], none⟩,
          ⟨some 25, .mv, [.t 27], none⟩] [0, 2, 9, 25])
       (.cond (.t 25)
         (.seq (.ops [⟨some 8, .mv, [.k (.i .i64 5)], none⟩] [8])
         (.ret))
         (.seq (.ops [⟨some 29, .mv, [.t 0], none⟩,
            ⟨some 30, .nilchk, [.t 29], none⟩,
            ⟨some 31, .fadr 18, [.t 30], none⟩,
            ⟨some 32, .load 1 false, [.t 31], none⟩,
            ⟨some 28, .mv, [.t 32], none⟩] [0, 2, 9, 28])
         (.cond (.t 28)
           (.seq (.ops [⟨some 8, .mv, [.k (.i .i64 6)], none⟩] [8])
           (.ret))
           (.skip)))))))) c12t5
def c12t3 : CC :=
  .seq (.ops [⟨some 17, .load 19 true, [.t 9], none⟩,
     ⟨some 18, .mv, [.t 3], none⟩,
     ⟨some 19, .call 15, [.t 17, .t 18], none⟩,
     ⟨some 16, .mv, [.t 19], none⟩,
     ⟨some 20, .extract 0, [.t 16], none⟩,
     ⟨some 21, .extract 1, [.t 16], none⟩,
     ⟨none, .store 19, [.t 9, .t 20], none⟩,
     ⟨some 10, .mv, [.t 21], none⟩] [0, 2, 9, 10]) c12t4
def c12t2 : CC :=
  .seq (.seq (.ops [⟨some 14, .mv, [.t 1], none⟩] [0, 2, 3, 9, 14])
   (.cond (.t 14)
     (.ops [⟨some 15, .call 14, [.t 9], none⟩] [0, 2, 3, 9])
     (.skip))) c12t3
def c12t1 : CC :=
  .seq (.ops [⟨some 11, .mv, [.t 0], none⟩,
     ⟨some 12, .nilchk, [.t 11], none⟩,
     ⟨some 13, .load 19 true, [.t 12], none⟩,
     ⟨some 9, .alloc (.agg [.s [], .s [], .s [], .s [], .s [], .s [], .s [], .s [], .s [], .s [], .s [], .s [], .s [], .s [], .s [], .s [], .s [], .s [], .b false]), [], none⟩,
     ⟨none, .store 19, [.t 9, .t 13], none⟩] [0, 1, 2, 3, 9]) c12t2
def c12 : CC :=
  .seq (.ops [⟨some 8, .mv, [.k (.i .i64 0)], none⟩] [0, 1, 2, 3]) c12t1
def r12 : List RV := [.t 8]
theorem e12 : compF Tryd.prog 12 [(13, [8]), (12, []), (11, [0, 9]), (6, [8]), (8, [8]), (10, [8]), (9, [0, 2, 9, 28]), (7, [0, 2, 9, 25]), (5, [0, 2, 9, 22]), (4, [0, 2, 9, 10]), (3, [0, 2, 3, 9]), (2, [0, 2, 3, 9, 14]), (1, [0, 1, 2, 3, 9]), (0, [0, 1, 2, 3])] = some (c12, r12, 38) := by kernel_rfl
def c13t5 : CC :=
  .ret
def c13t4 : CC :=
  .seq (.ops [⟨some 17, .load 17 true, [.t 1], none⟩,
     ⟨none, .store 17, [.t 0, .t 17], none⟩] [0]) c13t5
def c13L0 : CC :=
  .loop (.seq (.seq (.ops [⟨some 11, .mv, [.t 3], none⟩,
       ⟨some 12, .bin .leq, [.t 11, .k (.i .i64 14)], none⟩] [0, 1, 3, 12])
    (.cond (.t 12)
      (.skip)
      (.exit 2)))
   (.seq (.block 3 (.ops [⟨some 15, .mv, [.t 3], none⟩,
        ⟨some 16, .iadrA 17 1, [.t 1, .t 15], none⟩,
        ⟨none, .store 1, [.t 16, .k (.fn (.func 25) [] [])], none⟩] [0, 1, 3]))
   (.ops [⟨some 13, .mv, [.t 3], none⟩,
     ⟨some 14, .bin .add, [.t 13, .k (.i .i64 1)], none⟩,
     ⟨some 3, .mv, [.t 14], none⟩] [0, 1, 3])))
def c13t3 : CC :=
  .seq (.seq (.ops [⟨some 3, .mv, [.k (.i .i64 9)], none⟩] [0, 1, 3])
   (.block 2 (c13L0))) c13t4
def c13L1 : CC :=
  .loop (.seq (.seq (.ops [⟨some 5, .mv, [.t 2], none⟩,
       ⟨some 6, .bin .leq, [.t 5, .k (.i .i64 8)], none⟩] [0, 1, 2, 6])
    (.cond (.t 6)
      (.skip)
      (.exit 0)))
   (.seq (.block 1 (.ops [⟨some 9, .mv, [.t 2], none⟩,
        ⟨some 10, .iadrA 17 1, [.t 1, .t 9], none⟩,
        ⟨none, .store 1, [.t 10, .k (.fn (.func 24) [] [])], none⟩] [0, 1, 2]))
   (.ops [⟨some 7, .mv, [.t 2], none⟩,
     ⟨some 8, .bin .add, [.t 7, .k (.i .i64 1)], none⟩,
     ⟨some 2, .mv, [.t 8], none⟩] [0, 1, 2])))
def c13t2 : CC :=
  .seq (.seq (.ops [⟨some 2, .mv, [.k (.i .i64 5)], none⟩] [0, 1, 2])
   (.block 0 (c13L1))) c13t3
def c13t1 : CC :=
  .seq (.ops [⟨some 4, .build [.c .nilFunc, .c .nilFunc, .c .nilFunc, .c .nilFunc, .c .nilFunc, .c .nilFunc, .c .nilFunc, .c .nilFunc, .c .nilFunc, .c .nilFunc, .c .nilFunc, .c .nilFunc, .c .nilFunc, .c .nilFunc, .c .nilFunc, .c .nilFunc, .c .nilFunc] [(0, 1), (1, 1), (2, 1), (3, 1), (4, 1), (15, 1), (16, 1)], [.k (.fn (.func 17) [] []), .k (.fn (.func 18) [] []), .k (.fn (.func 19) [] []), .k (.fn (.func 20) [] []), .k (.fn (.func 21) [] []), .k (.fn (.func 22) [] []), .k (.fn (.func 23) [] [])], none⟩,
     ⟨some 1, .alloc (.agg [.c .nilFunc, .c .nilFunc, .c .nilFunc, .c .nilFunc, .c .nilFunc, .c .nilFunc, .c .nilFunc, .c .nilFunc, .c .nilFunc, .c .nilFunc, .c .nilFunc, .c .nilFunc, .c .nilFunc, .c .nilFunc, .c .nilFunc, .c .nilFunc, .c .nilFunc]), [], none⟩,
     ⟨none, .store 17, [.t 1, .t 4], none⟩] [0, 1]) c13t2
def c13 : CC :=
  .seq (.ops [⟨some 0, .alloc (.agg [.c .nilFunc, .c .nilFunc, .c .nilFunc, .c .nilFunc, .c .nilFunc, .c .nilFunc, .c .nilFunc, .c .nilFunc, .c .nilFunc, .c .nilFunc, .c .nilFunc, .c .nilFunc, .c .nilFunc, .c .nilFunc, .c .nilFunc, .c .nilFunc, .c .nilFunc]), [], none⟩] [0]) c13t1
def r13 : List RV := [.cell 0 17 true]
theorem e13 : compF Tryd.prog 13 [(10, [0]), (8, [0, 1, 3]), (9, [0, 1, 3]), (7, [0, 1, 3, 12]), (6, [0, 1, 3]), (4, [0, 1, 2]), (5, [0, 1, 2]), (3, [0, 1, 2, 6]), (2, [0, 1, 2]), (1, [0, 1]), (0, [0])] = some (c13, r13, 18) := by kernel_rfl
def c14 : CC :=
  .ops [⟨some 2, .mv, [.t 0], none⟩,
    ⟨some 3, .build [.s [], .s [], .s [], .s [], .s [], .s [], .s [], .s [], .s [], .s [], .s [], .s [], .s [], .s [], .s [], .s [], .s [], .s []] [], [], none⟩,
    ⟨some 4, .nilchk, [.t 2], none⟩,
    ⟨some 5, .fadr 0, [.t 4], none⟩,
    ⟨none, .store 18, [.t 5, .t 3], none⟩] []
def r14 : List RV := []
theorem e14 : compF Tryd.prog 14 [(0, [])] = some (c14, r14, 6) := by kernel_rfl
def c15t3 : CC :=
  .ret
def c15t2 : CC :=
  .seq (.ops [⟨some 57, .load 19 true, [.t 2], none⟩,
     ⟨none, .store 19, [.t 4, .t 57], none⟩,
     ⟨some 5, .mv, [.k (.b true)], none⟩] [4, 5]) c15t3
def c15L0 : CC :=
  .loop (.seq (.ops [⟨some 19, .bin .lss, [.t 18, .t 17], none⟩] [2, 4, 16, 17, 18, 19])
   (.seq (.cond (.t 19)
      (.skip)
      (.exit 0))
   (.seq (.block 1 (.seq (.ops [⟨some 20, .iadrS 1, [.t 16, .t 18], none⟩,
         ⟨some 21, .load 1 false, [.t 20], none⟩,
         ⟨some 7, .mv, [.t 21], none⟩] [2, 4, 7, 16, 17, 18])
      (.seq (.seq (.ops [⟨some 22, .mv, [.t 7], none⟩,
          ⟨some 23, .bin .eql, [.t 22, .k (.s [])], none⟩] [2, 4, 7, 16, 17, 18, 23])
       (.cond (.t 23)
         (.exit 1)
         (.skip)))
      (.seq (.ops [⟨some 25, .mv, [.t 7], none⟩,
         ⟨some 26, .call 27, [.t 25, .k (.s [47])], none⟩,
         ⟨some 24, .mv, [.t 26], none⟩,
         ⟨some 27, .extract 0, [.t 24], none⟩,
         ⟨some 28, .extract 1, [.t 24], none⟩,
         ⟨some 29, .extract 2, [.t 24], none⟩,
         ⟨some 8, .mv, [.t 27], none⟩,
         ⟨some 9, .mv, [.t 28], none⟩,
         ⟨some 10, .mv, [.t 29], none⟩] [2, 4, 8, 9, 10, 16, 17, 18])
      (.seq (.ops [⟨some 31, .mv, [.t 8], none⟩,
         ⟨some 32, .call 28, [.t 31], none⟩,
         ⟨some 30, .mv, [.t 32], none⟩,
         ⟨some 33, .extract 0, [.t 30], none⟩,
         ⟨some 34, .extract 1, [.t 30], none⟩,
         ⟨some 11, .mv, [.t 33], none⟩,
         ⟨some 12, .mv, [.t 34], none⟩] [2, 4, 9, 10, 11, 12, 16, 17, 18])
      (.seq (.ops [⟨some 36, .mv, [.t 9], none⟩,
         ⟨some 37, .call 29, [.t 36], none⟩,
         ⟨some 35, .mv, [.t 37], none⟩,
         ⟨some 38, .extract 0, [.t 35], none⟩,
         ⟨some 39, .extract 1, [.t 35], none⟩,
         ⟨some 13, .mv, [.t 38], none⟩,
         ⟨some 14, .mv, [.t 39], none⟩] [2, 4, 10, 11, 12, 13, 14, 16, 17, 18])
      (.seq (.seq (.ops [⟨some 40, .mv, [.t 10], none⟩,
          ⟨some 41, .not, [.t 40], none⟩,
          ⟨some 42, .mv, [.t 41], none⟩,
          ⟨some 43, .mv, [.t 12], some (42, false, true)⟩,
          ⟨some 44, .not, [.t 43], some (42, false, true)⟩,
          ⟨some 45, .pick, [.t 42, .k (.b true), .t 44], none⟩,
          ⟨some 46, .mv, [.t 45], none⟩,
          ⟨some 47, .mv, [.t 14], some (46, false, true)⟩,
          ⟨some 48, .bin .neq, [.t 47, .k (.i .i64 0)], some (46, false, true)⟩,
          ⟨some 49, .pick, [.t 46, .k (.b true), .t 48], none⟩] [2, 4, 11, 13, 16, 17, 18, 49])
       (.cond (.t 49)
         (.seq (.ops [⟨some 50, .load 19 true, [.t 2], none⟩,
            ⟨none, .store 19, [.t 4, .t 50], none⟩,
            ⟨some 5, .mv, [.k (.b false)], none⟩] [4, 5])
         (.ret))
         (.skip)))
      (.ops [⟨some 51, .mv, [.t 11], none⟩,
        ⟨some 52, .bin .sub, [.t 51, .k (.i .i64 17)], none⟩,
        ⟨some 53, .mv, [.t 13], none⟩,
        ⟨some 54, .fadr 0, [.t 2], none⟩,
        ⟨some 55, .iadrA 18 1, [.t 54, .t 52], none⟩,
        ⟨none, .store 1, [.t 55, .t 53], none⟩] [2, 4, 16, 17, 18]))))))))
   (.ops [⟨some 56, .bin .add, [.t 18, .k (.i .i64 1)], none⟩,
     ⟨some 18, .mv, [.t 56], none⟩] [2, 4, 16, 17, 18]))))
def c15t1 : CC :=
  .seq (.seq (.ops [⟨some 15, .mv, [.t 1], none⟩,
      ⟨some 16, .call 26, [.t 15, .k (.s [59])], none⟩,
      ⟨some 17, .lenSl, [.t 16], none⟩,
      ⟨some 18, .mv, [.k (.i .i64 0)], none⟩] [2, 4, 16, 17, 18])
   (.block 0 (c15L0))) c15t2
def c15 : CC :=
  .seq (.ops [⟨some 2, .box, [.t 0], none⟩,
     ⟨some 4, .alloc (.agg [.s [], .s [], .s [], .s [], .s [], .s [], .s [], .s [], .s [], .s [], .s [], .s [], .s [], .s [], .s [], .s [], .s [], .s [], .b false]), [], none⟩,
     ⟨some 5, .mv, [.k (.b false)], none⟩] [1, 2, 4]) c15t1
def r15 : List RV := [.cell 4 19 true, .t 5]
theorem e15 : compF Tryd.prog 15 [(12, [4, 5]), (11, [2, 4, 16, 17, 18]), (10, [2, 4, 16, 17, 18]), (9, [4, 5]), (8, [2, 4, 11, 13, 16, 17, 18, 49]), (7, [2, 4, 10, 11, 12, 13, 14, 16, 17, 18]), (6, [2, 4, 9, 10, 11, 12, 16, 17, 18]), (5, [2, 4, 8, 9, 10, 16, 17, 18]), (4, [2, 4, 7, 16, 17, 18, 23]), (3, [2, 4, 7, 16, 17, 18]), (2, [2, 4, 16, 17, 18, 19]), (1, [2, 4, 16, 17, 18]), (0, [1, 2, 4])] = some (c15, r15, 58) := by kernel_rfl
def c16t2 : CC :=
  .ret
def c16t1 : CC :=
  .seq (.ops [⟨some 3, .mv, [.t 0], none⟩,
     ⟨some 4, .nilchk, [.t 3], none⟩,
     ⟨some 5, .fadr 0, [.t 4], none⟩,
     ⟨some 6, .sliceArr 18 1, [.t 5], none⟩,
     ⟨some 7, .call 30, [.t 6, .k (.s [])], none⟩,
     ⟨some 8, .lenStr, [.t 7], none⟩,
     ⟨some 2, .mv, [.t 8], none⟩] [2]) c16t2
def c16 : CC :=
  .seq (.ops [⟨some 2, .mv, [.k (.i .i64 0)], none⟩] [0]) c16t1
def r16 : List RV := [.t 2]
theorem e16 : compF Tryd.prog 16 [(1, [2]), (0, [0])] = some (c16, r16, 9) := by kernel_rfl
def c17t4 : CC :=
  .ret
def c17t3 : CC :=
  .seq (.ops [⟨some 57, .mv, [.t 3], none⟩,
     ⟨some 58, .buildSlice 1, [.t 57], none⟩,
     ⟨some 2, .mv, [.t 58], none⟩] [2]) c17t4
def c17t2 : CC :=
  .seq (.block 0 (.seq (.ops [⟨some 8, .mv, [.t 3], none⟩,
        ⟨some 9, .bin .lss, [.t 8, .k (.i .u8 32)], none⟩,
        ⟨some 10, .mv, [.t 9], none⟩,
        ⟨some 11, .mv, [.t 3], some (10, false, true)⟩,
        ⟨some 12, .bin .geq, [.t 11, .k (.i .u8 127)], some (10, false, true)⟩,
        ⟨some 13, .mv, [.t 12], some (10, false, true)⟩,
        ⟨some 14, .mv, [.t 3], some (13, true, true)⟩,
        ⟨some 15, .bin .lss, [.t 14, .k (.i .u8 160)], some (13, true, true)⟩,
        ⟨some 16, .pick, [.t 13, .t 15, .k (.b false)], some (10, false, true)⟩,
        ⟨some 17, .pick, [.t 10, .k (.b true), .t 16], none⟩,
        ⟨some 18, .mv, [.t 17], none⟩,
        ⟨some 19, .mv, [.t 3], some (18, false, true)⟩,
        ⟨some 20, .bin .geq, [.t 19, .k (.i .u8 160)], some (18, false, true)⟩,
        ⟨some 21, .mv, [.t 20], some (18, false, true)⟩,
        ⟨some 22, .fadr 5, [.t 1], some (21, true, true)⟩,
        ⟨some 23, .load 1 false, [.t 22], some (21, true, true)⟩,
        ⟨some 24, .bin .lss, [.t 23, .k (.i .i64 2)], some (21, true, true)⟩,
        ⟨some 25, .pick, [.t 21, .t 24, .k (.b false)], some (18, false, true)⟩,
        ⟨some 26, .pick, [.t 18, .k (.b true), .t 25], none⟩,
        ⟨some 7, .mv, [.t 26], none⟩] [1, 3, 7])
     (.cond (.t 7)
       (.seq (.ops [⟨some 2, .mv, [.k (.c (.slice none 0 0))], none⟩] [2])
       (.ret))
       (.seq (.ops [⟨some 28, .fadr 0, [.t 1], none⟩,
          ⟨some 29, .fadr 3, [.t 28], none⟩,
          ⟨some 30, .load 1 false, [.t 29], none⟩,
          ⟨some 31, .mv, [.t 30], none⟩,
          ⟨some 32, .mv, [.t 3], some (31, true, true)⟩,
          ⟨some 33, .bin .eql, [.t 32, .k (.i .u8 63)], some (31, true, true)⟩,
          ⟨some 34, .pick, [.t 31, .t 33, .k (.b false)], none⟩,
          ⟨some 27, .mv, [.t 34], none⟩] [1, 3, 27])
       (.cond (.t 27)
         (.ops [⟨some 3, .mv, [.k (.i .u8 127)], none⟩] [3])
         (.seq (.ops [⟨some 36, .fadr 0, [.t 1], none⟩,
            ⟨some 37, .fadr 3, [.t 36], none⟩,
            ⟨some 38, .load 1 false, [.t 37], none⟩,
            ⟨some 39, .mv, [.t 38], none⟩,
            ⟨some 40, .mv, [.t 3], some (39, true, true)⟩,
            ⟨some 41, .bin .eql, [.t 40, .k (.i .u8 32)], some (39, true, true)⟩,
            ⟨some 42, .pick, [.t 39, .t 41, .k (.b false)], none⟩,
            ⟨some 35, .mv, [.t 42], none⟩] [1, 3, 35])
         (.cond (.t 35)
           (.ops [⟨some 3, .mv, [.k (.i .u8 0)], none⟩] [3])
           (.seq (.ops [⟨some 44, .fadr 0, [.t 1], none⟩,
              ⟨some 45, .fadr 3, [.t 44], none⟩,
              ⟨some 46, .load 1 false, [.t 45], none⟩,
              ⟨some 47, .mv, [.t 46], none⟩,
              ⟨some 48, .mv, [.t 3], some (47, true, true)⟩,
              ⟨some 49, .bin .geq, [.t 48, .k (.i .u8 64)], some (47, true, true)⟩,
              ⟨some 50, .pick, [.t 47, .t 49, .k (.b false)], none⟩,
              ⟨some 51, .mv, [.t 50], none⟩,
              ⟨some 52, .mv, [.t 3], some (51, true, true)⟩,
              ⟨some 53, .bin .lss, [.t 52, .k (.i .u8 127)], some (51, true, true)⟩,
              ⟨some 54, .pick, [.t 51, .t 53, .k (.b false)], none⟩,
              ⟨some 43, .mv, [.t 54], none⟩] [3, 43])
           (.cond (.t 43)
             (.ops [⟨some 55, .mv, [.t 3], none⟩,
               ⟨some 56, .bin .and, [.t 55, .k (.i .u8 31)], none⟩,
               ⟨some 3, .mv, [.t 56], none⟩] [3])
             (.skip)))))))))) c17t3
def c17t1 : CC :=
  .seq (.ops [⟨some 4, .fadr 0, [.t 1], none⟩,
     ⟨some 5, .fadr 1, [.t 4], none⟩,
     ⟨some 6, .load 1 false, [.t 5], none⟩,
     ⟨some 3, .mv, [.t 6], none⟩] [1, 3]) c17t2
def c17 : CC :=
  .seq (.ops [⟨some 1, .box, [.t 0], none⟩,
     ⟨some 2, .mv, [.k (.c (.slice none 0 0))], none⟩] [1]) c17t1
def r17 : List RV := [.t 2]
theorem e17 : compF Tryd.prog 17 [(10, [2]), (3, [2]), (5, [3]), (7, [3]), (9, [3]), (8, [3, 43]), (6, [1, 3, 35]), (4, [1, 3, 27]), (2, [1, 3, 7]), (1, [1, 3]), (0, [1])] = some (c17, r17, 59) := by kernel_rfl
def c18t3 : CC :=
  .ret
def c18t2 : CC :=
  .seq (.ops [⟨some 8, .buildSlice 1, [.k (.i .u8 13)], none⟩,
     ⟨some 9, .sealB, [.t 8], none⟩,
     ⟨some 2, .mv, [.t 9], none⟩] [2]) c18t3
def c18t1 : CC :=
  .seq (.seq (.ops [⟨some 3, .fadr 4, [.t 1], none⟩,
      ⟨some 4, .load 1 false, [.t 3], none⟩,
      ⟨some 5, .call 7, [.t 4, .k (.i .i64 3)], none⟩] [5])
   (.cond (.t 5)
     (.seq (.ops [⟨some 6, .buildSlice 1, [.k (.i .u8 13), .k (.i .u8 10)], none⟩,
        ⟨some 7, .sealB, [.t 6], none⟩,
        ⟨some 2, .mv, [.t 7], none⟩] [2])
     (.ret))
     (.skip))) c18t2
def c18 : CC :=
  .seq (.ops [⟨some 1, .box, [.t 0], none⟩,
     ⟨some 2, .mv, [.k (.c (.slice none 0 0))], none⟩] [1]) c18t1
def r18 : List RV := [.t 2]
theorem e18 : compF Tryd.prog 18 [(3, [2]), (2, [2]), (1, [5]), (0, [1])] = some (c18, r18, 10) := by kernel_rfl
def c19t3 : CC :=
  .ret
def c19t2 : CC :=
  .seq (.ops [⟨some 14, .buildSlice 1, [.k (.i .u8 9)], none⟩,
     ⟨some 15, .sealB, [.t 14], none⟩,
     ⟨some 2, .mv, [.t 15], none⟩] [2]) c19t3
def c19t1 : CC :=
  .seq (.seq (.ops [⟨some 3, .fadr 0, [.t 1], none⟩,
      ⟨some 4, .fadr 2, [.t 3], none⟩,
      ⟨some 5, .load 1 false, [.t 4], none⟩,
      ⟨some 6, .mv, [.t 5], none⟩,
      ⟨some 7, .fadr 5, [.t 1], some (6, true, true)⟩,
      ⟨some 8, .load 1 false, [.t 7], some (6, true, true)⟩,
      ⟨some 9, .bin .geq, [.t 8, .k (.i .i64 2)], some (6, true, true)⟩,
      ⟨some 10, .pick, [.t 6, .t 9, .k (.b false)], none⟩] [1, 10])
   (.cond (.t 10)
     (.seq (.ops [⟨some 11, .fadr 6, [.t 1], none⟩,
        ⟨some 12, .load 1 false, [.t 11], none⟩,
        ⟨some 13, .call 31, [.t 12, .k (.s [90]), .k (.c (.slice none 0 0))], none⟩,
        ⟨some 2, .mv, [.t 13], none⟩] [2])
     (.ret))
     (.skip))) c19t2
def c19 : CC :=
  .seq (.ops [⟨some 1, .box, [.t 0], none⟩,
     ⟨some 2, .mv, [.k (.c (.slice none 0 0))], none⟩] [1]) c19t1
def r19 : List RV := [.t 2]
theorem e19 : compF Tryd.prog 19 [(3, [2]), (2, [2]), (1, [1, 10]), (0, [1])] = some (c19, r19, 16) := by kernel_rfl
def c20t3 : CC :=
  .ret
def c20t2 : CC :=
  .seq (.ops [⟨some 8, .buildSlice 1, [.k (.i .u8 127)], none⟩,
     ⟨some 9, .sealB, [.t 8], none⟩,
     ⟨some 2, .mv, [.t 9], none⟩] [2]) c20t3
def c20t1 : CC :=
  .seq (.seq (.ops [⟨some 3, .fadr 4, [.t 1], none⟩,
      ⟨some 4, .load 1 false, [.t 3], none⟩,
      ⟨some 5, .call 7, [.t 4, .k (.i .i64 13)], none⟩] [5])
   (.cond (.t 5)
     (.seq (.ops [⟨some 6, .buildSlice 1, [.k (.i .u8 8)], none⟩,
        ⟨some 7, .sealB, [.t 6], none⟩,
        ⟨some 2, .mv, [.t 7], none⟩] [2])
     (.ret))
     (.skip))) c20t2
def c20 : CC :=
  .seq (.ops [⟨some 1, .box, [.t 0], none⟩,
     ⟨some 2, .mv, [.k (.c (.slice none 0 0))], none⟩] [1]) c20t1
def r20 : List RV := [.t 2]
theorem e20 : compF Tryd.prog 20 [(3, [2]), (2, [2]), (1, [5]), (0, [1])] = some (c20, r20, 10) := by kernel_rfl
def c21t2 : CC :=
  .ret
def c21t1 : CC :=
  .seq (.ops [⟨some 3, .buildSlice 1, [.k (.i .u8 27)], none⟩,
     ⟨some 4, .sealB, [.t 3], none⟩,
     ⟨some 2, .mv, [.t 4], none⟩] [2]) c21t2
def c21 : CC :=
  .seq (.ops [⟨some 1, .box, [.t 0], none⟩,
     ⟨some 2, .mv, [.k (.c (.slice none 0 0))], none⟩] []) c21t1
def r21 : List RV := [.t 2]
theorem e21 : compF Tryd.prog 21 [(1, [2]), (0, [])] = some (c21, r21, 5) := by kernel_rfl
def c22t4 : CC :=
  .ret
def c22t3 : CC :=
  .seq (.ops [⟨some 27, .fadr 0, [.t 1], none⟩,
     ⟨some 28, .fadr 1, [.t 27], none⟩,
     ⟨some 29, .load 1 false, [.t 28], none⟩,
     ⟨some 30, .buildSlice 1, [.t 29], none⟩,
     ⟨some 2, .mv, [.t 30], none⟩] [2]) c22t4
def c22t2 : CC :=
  .seq (.block 0 (.seq (.ops [⟨some 9, .mv, [.t 3], none⟩,
        ⟨some 10, .bin .lss, [.t 9, .k (.i .i64 0)], none⟩,
        ⟨some 8, .mv, [.t 10], none⟩] [1, 3, 8])
     (.cond (.t 8)
       (.seq (.ops [⟨some 2, .mv, [.k (.c (.slice none 0 0))], none⟩] [2])
       (.ret))
       (.seq (.ops [⟨some 12, .fadr 4, [.t 1], none⟩,
          ⟨some 13, .load 1 false, [.t 12], none⟩,
          ⟨some 14, .call 7, [.t 13, .k (.i .i64 12)], none⟩,
          ⟨some 11, .mv, [.t 14], none⟩] [1, 3, 11])
       (.cond (.t 11)
         (.seq (.par [(⟨some 15, .fadr 6, [.t 1], none⟩, []),
            (⟨some 16, .load 1 false, [.t 15], none⟩, []),
            (⟨some 17, .mv, [.t 3], none⟩, []),
            (⟨some 18, .idxS, [.k (.s [112, 113, 114, 115, 116, 117, 118, 119, 120, 121, 109, 108, 110, 77]), .t 17], none⟩, []),
            (⟨some 19, .call 33, [.t 16, .t 18], none⟩, []),
            (⟨some 2, .mv, [.t 19], none⟩, [])] [2])
         (.ret))
         (.seq (.ops [⟨some 21, .fadr 0, [.t 1], none⟩,
            ⟨some 22, .fadr 1, [.t 21], none⟩,
            ⟨some 23, .load 1 false, [.t 22], none⟩,
            ⟨some 24, .bin .eql, [.t 23, .k (.i .u8 13)], none⟩,
            ⟨some 20, .mv, [.t 24], none⟩] [1, 20])
         (.cond (.t 20)
           (.seq (.ops [⟨some 25, .load 8 true, [.t 1], none⟩,
              ⟨some 26, .call 18, [.t 25], none⟩,
              ⟨some 2, .mv, [.t 26], none⟩] [2])
           (.ret))
           (.skip)))))))) c22t3
def c22t1 : CC :=
  .seq (.ops [⟨some 4, .fadr 0, [.t 1], none⟩,
     ⟨some 5, .fadr 1, [.t 4], none⟩,
     ⟨some 6, .load 1 false, [.t 5], none⟩,
     ⟨some 7, .call 32, [.k (.s [48, 49, 50, 51, 52, 53, 54, 55, 56, 57, 45, 44, 46, 13]), .t 6], none⟩,
     ⟨some 3, .mv, [.t 7], none⟩] [1, 3]) c22t2
def c22 : CC :=
  .seq (.ops [⟨some 1, .box, [.t 0], none⟩,
     ⟨some 2, .mv, [.k (.c (.slice none 0 0))], none⟩] [1]) c22t1
def r22 : List RV := [.t 2]
theorem e22 : compF Tryd.prog 22 [(8, [2]), (3, [2]), (5, [2]), (7, [2]), (6, [1, 20]), (4, [1, 3, 11]), (2, [1, 3, 8]), (1, [1, 3]), (0, [1])] = some (c22, r22, 31) := by kernel_rfl
def c23t4 : CC :=
  .ret
def c23t3 : CC :=
  .seq (.ops [⟨some 73, .load 8 true, [.t 1], none⟩,
     ⟨some 74, .mv, [.t 3], none⟩,
     ⟨some 75, .call 36, [.t 73, .t 74], none⟩,
     ⟨some 2, .mv, [.t 75], none⟩] [2]) c23t4
def c23t2 : CC :=
  .seq (.block 0 (.seq (.ops [⟨some 12, .fadr 0, [.t 1], none⟩,
        ⟨some 13, .fadr 1, [.t 12], none⟩,
        ⟨some 14, .load 1 false, [.t 13], none⟩,
        ⟨some 15, .bin .geq, [.t 14, .k (.i .u8 1)], none⟩,
        ⟨some 16, .mv, [.t 15], none⟩,
        ⟨some 17, .fadr 0, [.t 1], some (16, true, true)⟩,
        ⟨some 18, .fadr 1, [.t 17], some (16, true, true)⟩,
        ⟨some 19, .load 1 false, [.t 18], some (16, true, true)⟩,
        ⟨some 20, .bin .leq, [.t 19, .k (.i .u8 4)], some (16, true, true)⟩,
        ⟨some 21, .pick, [.t 16, .t 20, .k (.b false)], none⟩,
        ⟨some 11, .mv, [.t 21], none⟩] [1, 3, 11])
     (.cond (.t 11)
       (.seq (.ops [⟨some 22, .fadr 6, [.t 1], none⟩,
          ⟨some 23, .load 1 false, [.t 22], none⟩,
          ⟨some 24, .fadr 0, [.t 1], none⟩,
          ⟨some 25, .fadr 1, [.t 24], none⟩,
          ⟨some 26, .load 1 false, [.t 25], none⟩,
          ⟨some 27, .bin .add, [.k (.i .u8 80), .t 26], none⟩,
          ⟨some 28, .bin .sub, [.t 27, .k (.i .u8 1)], none⟩,
          ⟨some 29, .call 33, [.t 23, .t 28], none⟩,
          ⟨some 2, .mv, [.t 29], none⟩] [2])
       (.ret))
       (.seq (.ops [⟨some 31, .fadr 5, [.t 1], none⟩,
          ⟨some 32, .load 1 false, [.t 31], none⟩,
          ⟨some 33, .bin .lss, [.t 32, .k (.i .i64 2)], none⟩,
          ⟨some 34, .mv, [.t 33], none⟩,
          ⟨some 35, .fadr 0, [.t 1], some (34, true, true)⟩,
          ⟨some 36, .fadr 1, [.t 35], some (34, true, true)⟩,
          ⟨some 37, .load 1 false, [.t 36], some (34, true, true)⟩,
          ⟨some 38, .bin .geq, [.t 37, .k (.i .u8 11)], some (34, true, true)⟩,
          ⟨some 39, .pick, [.t 34, .t 38, .k (.b false)], none⟩,
          ⟨some 40, .mv, [.t 39], none⟩,
          ⟨some 41, .fadr 0, [.t 1], some (40, true, true)⟩,
          ⟨some 42, .fadr 1, [.t 41], some (40, true, true)⟩,
          ⟨some 43, .load 1 false, [.t 42], some (40, true, true)⟩,
          ⟨some 44, .bin .leq, [.t 43, .k (.i .u8 13)], some (40, true, true)⟩,
          ⟨some 45, .pick, [.t 40, .t 44, .k (.b false)], none⟩,
          ⟨some 30, .mv, [.t 45], none⟩] [1, 3, 30])
       (.cond (.t 30)
         (.seq (.ops [⟨some 46, .fadr 0, [.t 1], none⟩,
            ⟨some 47, .fadr 1, [.t 46], none⟩,
            ⟨some 48, .load 1 false, [.t 47], none⟩,
            ⟨some 49, .bin .sub, [.t 48, .k (.i .u8 11)], none⟩,
            ⟨some 50, .idxS, [.k (.s [27, 8, 10]), .t 49], none⟩,
            ⟨some 51, .buildSlice 1, [.t 50], none⟩,
            ⟨some 2, .mv, [.t 51], none⟩] [2])
         (.ret))
         (.seq (.ops [⟨some 53, .fadr 5, [.t 1], none⟩,
            ⟨some 54, .load 1 false, [.t 53], none⟩,
            ⟨some 55, .bin .lss, [.t 54, .k (.i .i64 2)], none⟩,
            ⟨some 56, .mv, [.t 55], none⟩,
            ⟨some 57, .mv, [.t 3], some (56, false, true)⟩,
            ⟨some 58, .bin .eql, [.t 57, .k (.i .i64 0)], some (56, false, true)⟩,
            ⟨some 59, .pick, [.t 56, .k (.b true), .t 58], none⟩,
            ⟨some 52, .mv, [.t 59], none⟩] [1, 3, 52])
         (.cond (.t 52)
           (.seq (.ops [⟨some 2, .mv, [.k (.c (.slice none 0 0))], none⟩] [2])
           (.ret))
           (.seq (.ops [⟨some 61, .fadr 0, [.t 1], none⟩,
              ⟨some 62, .fadr 2, [.t 61], none⟩,
              ⟨some 63, .load 1 false, [.t 62], none⟩,
              ⟨some 60, .mv, [.t 63], none⟩] [1, 3, 60])
           (.cond (.t 60)
             (.seq (.ops [⟨some 65, .fadr 7, [.t 1], none⟩,
                ⟨some 66, .load 1 false, [.t 65], none⟩,
                ⟨some 67, .mv, [.t 3], none⟩,
                ⟨some 68, .call 35, [.t 66, .t 67], none⟩,
                ⟨some 64, .mv, [.t 68], none⟩,
                ⟨some 69, .extract 0, [.t 64], none⟩,
                ⟨some 70, .extract 1, [.t 64], none⟩,
                ⟨some 4, .mv, [.t 69], none⟩,
                ⟨some 5, .mv, [.t 70], none⟩] [4])
             (.seq (.ops [⟨some 71, .mv, [.t 4], none⟩,
                ⟨some 72, .bytesOf, [.t 71], none⟩,
                ⟨some 2, .mv, [.t 72], none⟩] [2])
             (.ret)))
             (.skip)))))))))) c23t3
def c23t1 : CC :=
  .seq (.ops [⟨some 6, .fadr 0, [.t 1], none⟩,
     ⟨some 7, .fadr 1, [.t 6], none⟩,
     ⟨some 8, .load 1 false, [.t 7], none⟩,
     ⟨some 9, .conv .i64, [.t 8], none⟩,
     ⟨some 10, .call 34, [.t 9], none⟩,
     ⟨some 3, .mv, [.t 10], none⟩] [1, 3]) c23t2
def c23 : CC :=
  .seq (.ops [⟨some 1, .box, [.t 0], none⟩,
     ⟨some 2, .mv, [.k (.c (.slice none 0 0))], none⟩] [1]) c23t1
def r23 : List RV := [.t 2]
theorem e23 : compF Tryd.prog 23 [(11, [2]), (3, [2]), (5, [2]), (7, [2]), (10, [2]), (9, [4]), (8, [1, 3, 60]), (6, [1, 3, 52]), (4, [1, 3, 30]), (2, [1, 3, 11]), (1, [1, 3]), (0, [1])] = some (c23, r23, 76) := by kernel_rfl
def c24t4 : CC :=
  .ret
def c24t3 : CC :=
  .seq (.ops [⟨some 17, .fadr 6, [.t 1], none⟩,
     ⟨some 18, .load 1 false, [.t 17], none⟩,
     ⟨some 19, .mv, [.t 3], none⟩,
     ⟨some 20, .buildSlice 1, [.t 19], none⟩,
     ⟨some 21, .strOf, [.t 20], none⟩,
     ⟨some 22, .call 31, [.t 18, .t 21, .k (.c (.slice none 0 0))], none⟩,
     ⟨some 2, .mv, [.t 22], none⟩] [2]) c24t4
def c24t2 : CC :=
  .seq (.seq (.ops [⟨some 10, .fadr 4, [.t 1], none⟩,
      ⟨some 11, .load 1 false, [.t 10], none⟩,
      ⟨some 12, .call 7, [.t 11, .k (.i .i64 4)], none⟩] [1, 3, 12])
   (.cond (.t 12)
     (.seq (.ops [⟨some 13, .fadr 6, [.t 1], none⟩,
        ⟨some 14, .load 1 false, [.t 13], none⟩,
        ⟨some 15, .mv, [.t 3], none⟩,
        ⟨some 16, .call 33, [.t 14, .t 15], none⟩,
        ⟨some 2, .mv, [.t 16], none⟩] [2])
     (.ret))
     (.skip))) c24t3
def c24t1 : CC :=
  .seq (.ops [⟨some 4, .fadr 0, [.t 1], none⟩,
     ⟨some 5, .fadr 0, [.t 4], none⟩,
     ⟨some 6, .load 1 false, [.t 5], none⟩,
     ⟨some 7, .bin .add, [.k (.i .i64 65), .t 6], none⟩,
     ⟨some 8, .bin .sub, [.t 7, .k (.i .i64 5)], none⟩,
     ⟨some 9, .conv .u8, [.t 8], none⟩,
     ⟨some 3, .mv, [.t 9], none⟩] [1, 3]) c24t2
def c24 : CC :=
  .seq (.ops [⟨some 1, .box, [.t 0], none⟩,
     ⟨some 2, .mv, [.k (.c (.slice none 0 0))], none⟩] [1]) c24t1
def r24 : List RV := [.t 2]
theorem e24 : compF Tryd.prog 24 [(4, [2]), (3, [2]), (2, [1, 3, 12]), (1, [1, 3]), (0, [1])] = some (c24, r24, 23) := by kernel_rfl
def c25t3 : CC :=
  .ret
def c25t2 : CC :=
  .seq (.ops [⟨some 6, .load 8 true, [.t 1], none⟩,
     ⟨some 7, .fadr 0, [.t 1], none⟩,
     ⟨some 8, .fadr 0, [.t 7], none⟩,
     ⟨some 9, .load 1 false, [.t 8], none⟩,
     ⟨some 10, .bin .sub, [.t 9, .k (.i .i64 9)], none⟩,
     ⟨some 11, .bin .add, [.t 10, .k (.i .i64 1)], none⟩,
     ⟨some 12, .call 36, [.t 6, .t 11], none⟩,
     ⟨some 2, .mv, [.t 12], none⟩] [2]) c25t3
def c25t1 : CC :=
  .seq (.seq (.ops [⟨some 3, .fadr 5, [.t 1], none⟩,
      ⟨some 4, .load 1 false, [.t 3], none⟩,
      ⟨some 5, .bin .lss, [.t 4, .k (.i .i64 2)], none⟩] [1, 5])
   (.cond (.t 5)
     (.seq (.ops [⟨some 2, .mv, [.k (.c (.slice none 0 0))], none⟩] [2])
     (.ret))
     (.skip))) c25t2
def c25 : CC :=
  .seq (.ops [⟨some 1, .box, [.t 0], none⟩,
     ⟨some 2, .mv, [.k (.c (.slice none 0 0))], none⟩] [1]) c25t1
def r25 : List RV := [.t 2]
theorem e25 : compF Tryd.prog 25 [(3, [2]), (2, [2]), (1, [1, 5]), (0, [1])] = some (c25, r25, 13) := by kernel_rfl
def c26t2 : CC :=
  .ret
def c26t1 : CC :=
  .seq (.ops [⟨some 5, .mv, [.t 0], none⟩,
     ⟨some 6, .mv, [.t 1], none⟩,
     ⟨some 7, .call 37, [.t 5, .t 6, .k (.i .i64 0), .k (.i .i64 (-1))], none⟩,
     ⟨some 4, .mv, [.t 7], none⟩] [4]) c26t2
def c26 : CC :=
  .seq (.ops [⟨some 4, .mv, [.k (.c (.slice none 0 0))], none⟩] [0, 1]) c26t1
def r26 : List RV := [.t 4]
theorem e26 : compF Tryd.prog 26 [(1, [4]), (0, [0, 1])] = some (c26, r26, 8) := by kernel_rfl
def c27t2 : CC :=
  .ret
def c27t1 : CC :=
  .seq (.ops [⟨some 7, .mv, [.t 0], none⟩,
     ⟨some 8, .mv, [.t 1], none⟩,
     ⟨some 9, .call 38, [.t 7, .t 8], none⟩,
     ⟨some 10, .extract 0, [.t 9], none⟩,
     ⟨some 11, .extract 1, [.t 9], none⟩,
     ⟨some 12, .extract 2, [.t 9], none⟩,
     ⟨some 4, .mv, [.t 10], none⟩,
     ⟨some 5, .mv, [.t 11], none⟩,
     ⟨some 6, .mv, [.t 12], none⟩] [4, 5, 6]) c27t2
def c27 : CC :=
  .seq (.ops [⟨some 4, .mv, [.k (.s [])], none⟩,
     ⟨some 5, .mv, [.k (.s [])], none⟩,
     ⟨some 6, .mv, [.k (.b false)], none⟩] [0, 1]) c27t1
def r27 : List RV := [.t 4, .t 5, .t 6]
theorem e27 : compF Tryd.prog 27 [(1, [4, 5, 6]), (0, [0, 1])] = some (c27, r27, 13) := by kernel_rfl
def c28t4 : CC :=
  .ret
def c28t3 : CC :=
  .seq (.ops [⟨some 31, .mv, [.t 4], none⟩,
     ⟨some 32, .mv, [.t 4], none⟩,
     ⟨some 33, .call 39, [.t 32], none⟩,
     ⟨some 2, .mv, [.t 31], none⟩,
     ⟨some 3, .mv, [.t 33], none⟩] [2, 3]) c28t4
def c28L0 : CC :=
  .loop (.seq (.ops [⟨some 9, .bin .lss, [.t 8, .t 7], none⟩] [0, 4, 7, 8, 9])
   (.seq (.cond (.t 9)
      (.skip)
      (.exit 0))
   (.seq (.block 1 (.seq (.ops [⟨some 10, .mv, [.t 8], none⟩,
         ⟨some 5, .mv, [.t 10], none⟩] [0, 4, 5, 7, 8])
      (.seq (.seq (.ops [⟨some 11, .mv, [.t 0], none⟩,
          ⟨some 12, .mv, [.t 5], none⟩,
          ⟨some 13, .idxS, [.t 11, .t 12], none⟩,
          ⟨some 14, .bin .lss, [.t 13, .k (.i .u8 48)], none⟩,
          ⟨some 15, .mv, [.t 14], none⟩,
          ⟨some 16, .mv, [.t 0], some (15, false, true)⟩,
          ⟨some 17, .mv, [.t 5], some (15, false, true)⟩,
          ⟨some 18, .idxS, [.t 16, .t 17], some (15, false, false)⟩,
          ⟨some 19, .bin .gtr, [.t 18, .k (.i .u8 57)], some (15, false, false)⟩,
          ⟨some 20, .pick, [.t 15, .k (.b true), .t 19], none⟩] [0, 4, 5, 7, 8, 20])
       (.cond (.t 20)
         (.seq (.ops [⟨some 2, .mv, [.k (.i .i64 0)], none⟩,
            ⟨some 3, .mv, [.k (.b false)], none⟩] [2, 3])
         (.ret))
         (.skip)))
      (.ops [⟨some 21, .mv, [.t 4], none⟩,
        ⟨some 22, .bin .mul, [.t 21, .k (.i .i64 10)], none⟩,
        ⟨some 23, .mv, [.t 0], none⟩,
        ⟨some 24, .mv, [.t 5], none⟩,
        ⟨some 25, .idxS, [.t 23, .t 24], none⟩,
        ⟨some 26, .bin .sub, [.t 25, .k (.i .u8 48)], none⟩,
        ⟨some 27, .conv .i64, [.t 26], none⟩,
        ⟨some 28, .bin .add, [.t 22, .t 27], none⟩,
        ⟨some 29, .min, [.t 28, .k (.i .i64 68)], none⟩,
        ⟨some 4, .mv, [.t 29], none⟩] [0, 4, 7, 8]))))
   (.ops [⟨some 30, .bin .add, [.t 8, .k (.i .i64 1)], none⟩,
     ⟨some 8, .mv, [.t 30], none⟩] [0, 4, 7, 8]))))
def c28t2 : CC :=
  .seq (.seq (.ops [⟨some 6, .mv, [.t 0], none⟩,
      ⟨some 7, .lenStr, [.t 6], none⟩,
      ⟨some 8, .mv, [.k (.i .i64 0)], none⟩] [0, 4, 7, 8])
   (.block 0 (c28L0))) c28t3
def c28t1 : CC :=
  .seq (.ops [⟨some 4, .mv, [.k (.i .i64 0)], none⟩] [0, 4]) c28t2
def c28 : CC :=
  .seq (.ops [⟨some 2, .mv, [.k (.i .i64 0)], none⟩,
     ⟨some 3, .mv, [.k (.b false)], none⟩] [0]) c28t1
def r28 : List RV := [.t 2, .t 3]
theorem e28 : compF Tryd.prog 28 [(9, [2, 3]), (8, [0, 4, 7, 8]), (7, [0, 4, 7, 8]), (6, [2, 3]), (5, [0, 4, 5, 7, 8, 20]), (4, [0, 4, 5, 7, 8]), (3, [0, 4, 7, 8, 9]), (2, [0, 4, 7, 8]), (1, [0, 4]), (0, [0])] = some (c28, r28, 34) := by kernel_rfl
def c29t5 : CC :=
  .ret
def c29t4 : CC :=
  .seq (.ops [⟨some 41, .mv, [.t 4], none⟩,
     ⟨some 42, .strOf, [.t 41], none⟩,
     ⟨some 2, .mv, [.t 42], none⟩,
     ⟨some 3, .mv, [.k (.i .i64 0)], none⟩] [2, 3]) c29t5
def c29L0 : CC :=
  .loop (.seq (.seq (.ops [⟨some 12, .mv, [.t 5], none⟩,
       ⟨some 13, .mv, [.t 0], none⟩,
       ⟨some 14, .lenStr, [.t 13], none⟩,
       ⟨some 15, .bin .lss, [.t 12, .t 14], none⟩] [0, 4, 5, 15])
    (.cond (.t 15)
      (.skip)
      (.exit 0)))
   (.seq (.block 1 (.seq (.par [(⟨some 18, .mv, [.t 0], none⟩, []),
         (⟨some 19, .mv, [.t 5], none⟩, []),
         (⟨some 20, .idxS, [.t 18, .t 19], none⟩, []),
         (⟨some 22, .mv, [.t 0], none⟩, []),
         (⟨some 23, .mv, [.t 5], none⟩, []),
         (⟨some 24, .bin .add, [.t 23, .k (.i .i64 1)], none⟩, []),
         (⟨some 25, .idxS, [.t 22, .t 24], none⟩, []),
         (⟨some 21, .call 40, [.t 20], none⟩, []),
         (⟨some 26, .call 40, [.t 25], none⟩, []),
         (⟨some 6, .mv, [.t 21], none⟩, []),
         (⟨some 7, .mv, [.t 26], none⟩, [])] [0, 4, 5, 6, 7])
      (.seq (.seq (.ops [⟨some 27, .mv, [.t 6], none⟩,
          ⟨some 28, .bin .lss, [.t 27, .k (.i .i64 0)], none⟩,
          ⟨some 29, .mv, [.t 28], none⟩,
          ⟨some 30, .mv, [.t 7], some (29, false, true)⟩,
          ⟨some 31, .bin .lss, [.t 30, .k (.i .i64 0)], some (29, false, true)⟩,
          ⟨some 32, .pick, [.t 29, .k (.b true), .t 31], none⟩] [0, 4, 5, 6, 7, 32])
       (.cond (.t 32)
         (.seq (.ops [⟨some 2, .mv, [.k (.s [])], none⟩,
            ⟨some 3, .mv, [.k (.i .i64 3)], none⟩] [2, 3])
         (.ret))
         (.skip)))
      (.ops [⟨some 33, .mv, [.t 4], none⟩,
        ⟨some 34, .mv, [.t 6], none⟩,
        ⟨some 35, .bin .shl, [.t 34, .k (.i .u64 4)], none⟩,
        ⟨some 36, .mv, [.t 7], none⟩,
        ⟨some 37, .bin .or, [.t 35, .t 36], none⟩,
        ⟨some 38, .conv .u8, [.t 37], none⟩,
        ⟨some 39, .buildSlice 1, [.t 38], none⟩,
        ⟨some 40, .append 1 1, [.t 33, .t 39], none⟩,
        ⟨some 4, .mv, [.t 40], none⟩] [0, 4, 5]))))
   (.ops [⟨some 16, .mv, [.t 5], none⟩,
     ⟨some 17, .bin .add, [.t 16, .k (.i .i64 2)], none⟩,
     ⟨some 5, .mv, [.t 17], none⟩] [0, 4, 5])))
def c29t3 : CC :=
  .seq (.seq (.ops [⟨some 5, .mv, [.k (.i .i64 0)], none⟩] [0, 4, 5])
   (.block 0 (c29L0))) c29t4
def c29t2 : CC :=
  .seq (.ops [⟨some 4, .mv, [.k (.c (.slice none 0 0))], none⟩] [0, 4]) c29t3
def c29t1 : CC :=
  .seq (.seq (.ops [⟨some 8, .mv, [.t 0], none⟩,
      ⟨some 9, .lenStr, [.t 8], none⟩,
      ⟨some 10, .bin .rem, [.t 9, .k (.i .i64 2)], none⟩,
      ⟨some 11, .bin .eql, [.t 10, .k (.i .i64 1)], none⟩] [0, 11])
   (.cond (.t 11)
     (.seq (.ops [⟨some 2, .mv, [.k (.s [])], none⟩,
        ⟨some 3, .mv, [.k (.i .i64 3)], none⟩] [2, 3])
     (.ret))
     (.skip))) c29t2
def c29 : CC :=
  .seq (.ops [⟨some 2, .mv, [.k (.s [])], none⟩,
     ⟨some 3, .mv, [.k (.i .i64 0)], none⟩] [0]) c29t1
def r29 : List RV := [.t 2, .t 3]
theorem e29 : compF Tryd.prog 29 [(11, [2, 3]), (6, [0, 4, 5]), (10, [0, 4, 5]), (9, [2, 3]), (8, [0, 4, 5, 6, 7, 32]), (7, [0, 4, 5, 6, 7]), (5, [0, 4, 5, 15]), (4, [0, 4, 5]), (3, [0, 4]), (2, [2, 3]), (1, [0, 11]), (0, [0])] = some (c29, r29, 43) := by kernel_rfl
def c31t3 : CC :=
  .ret
def c31t2 : CC :=
  .seq (.ops [⟨some 17, .mv, [.t 7], none⟩,
     ⟨some 6, .mv, [.t 17], none⟩] [6]) c31t3
def c31t1 : CC :=
  .seq (.ops [⟨some 10, .mv, [.t 1], none⟩,
     ⟨some 11, .mv, [.t 2], none⟩,
     ⟨some 12, .call 44, [.k (.i .i64 4), .t 10, .t 11], none⟩,
     ⟨some 13, .mv, [.t 0], none⟩,
     ⟨some 14, .call 45, [.t 12, .t 13], none⟩,
     ⟨some 9, .mv, [.t 14], none⟩,
     ⟨some 15, .extract 0, [.t 9], none⟩,
     ⟨some 16, .extract 1, [.t 9], none⟩,
     ⟨some 7, .mv, [.t 15], none⟩,
     ⟨some 8, .mv, [.t 16], none⟩] [7]) c31t2
def c31 : CC :=
  .seq (.ops [⟨some 6, .mv, [.k (.c (.slice none 0 0))], none⟩] [0, 1, 2]) c31t1
def r31 : List RV := [.t 6]
theorem e31 : compF Tryd.prog 31 [(2, [6]), (1, [7]), (0, [0, 1, 2])] = some (c31, r31, 18) := by kernel_rfl
def c33t3 : CC :=
  .ret
def c33t2 : CC :=
  .seq (.ops [⟨some 13, .mv, [.t 5], none⟩,
     ⟨some 14, .mv, [.t 1], none⟩,
     ⟨some 15, .buildSlice 1, [.t 14], none⟩,
     ⟨some 16, .append 1 1, [.t 13, .t 15], none⟩,
     ⟨some 4, .mv, [.t 16], none⟩] [4]) c33t3
def c33t1 : CC :=
  .seq (.ops [⟨some 8, .build [.i .i64 0, .i .u8 0, .i .u8 0, .c (.slice none 0 0), .s [], .c (.slice none 0 0)] [(0, 1), (1, 1)], [.k (.i .i64 3), .k (.i .u8 79)], none⟩,
     ⟨some 9, .mv, [.t 0], none⟩,
     ⟨some 10, .call 45, [.t 8, .t 9], none⟩,
     ⟨some 7, .mv, [.t 10], none⟩,
     ⟨some 11, .extract 0, [.t 7], none⟩,
     ⟨some 12, .extract 1, [.t 7], none⟩,
     ⟨some 5, .mv, [.t 11], none⟩,
     ⟨some 6, .mv, [.t 12], none⟩] [1, 5]) c33t2
def c33 : CC :=
  .seq (.ops [⟨some 4, .mv, [.k (.c (.slice none 0 0))], none⟩] [0, 1]) c33t1
def r33 : List RV := [.t 4]
theorem e33 : compF Tryd.prog 33 [(2, [4]), (1, [1, 5]), (0, [0, 1])] = some (c33, r33, 17) := by kernel_rfl
def c34t3 : CC :=
  .ret
def c34t2 : CC :=
  .seq (.ops [⟨some 25, .mv, [.t 0], none⟩,
     ⟨some 26, .bin .add, [.t 25, .k (.i .i64 14)], none⟩,
     ⟨some 2, .mv, [.t 26], none⟩] [2]) c34t3
def c34t1 : CC :=
  .seq (.block 0 (.seq (.ops [⟨some 4, .mv, [.t 0], none⟩,
        ⟨some 5, .bin .lss, [.t 4, .k (.i .i64 6)], none⟩,
        ⟨some 6, .mv, [.t 5], none⟩,
        ⟨some 7, .mv, [.t 0], some (6, false, true)⟩,
        ⟨some 8, .bin .gtr, [.t 7, .k (.i .i64 20)], some (6, false, true)⟩,
        ⟨some 9, .pick, [.t 6, .k (.b true), .t 8], none⟩,
        ⟨some 3, .mv, [.t 9], none⟩] [0, 3])
     (.cond (.t 3)
       (.seq (.ops [⟨some 2, .mv, [.k (.i .i64 0)], none⟩] [2])
       (.ret))
       (.seq (.ops [⟨some 11, .mv, [.t 0], none⟩,
          ⟨some 12, .bin .leq, [.t 11, .k (.i .i64 10)], none⟩,
          ⟨some 10, .mv, [.t 12], none⟩] [0, 10])
       (.cond (.t 10)
         (.seq (.ops [⟨some 13, .mv, [.t 0], none⟩,
            ⟨some 14, .bin .add, [.t 13, .k (.i .i64 11)], none⟩,
            ⟨some 2, .mv, [.t 14], none⟩] [2])
         (.ret))
         (.seq (.ops [⟨some 16, .mv, [.t 0], none⟩,
            ⟨some 17, .bin .leq, [.t 16, .k (.i .i64 14)], none⟩,
            ⟨some 15, .mv, [.t 17], none⟩] [0, 15])
         (.cond (.t 15)
           (.seq (.ops [⟨some 18, .mv, [.t 0], none⟩,
              ⟨some 19, .bin .add, [.t 18, .k (.i .i64 12)], none⟩,
              ⟨some 2, .mv, [.t 19], none⟩] [2])
           (.ret))
           (.seq (.ops [⟨some 21, .mv, [.t 0], none⟩,
              ⟨some 22, .bin .leq, [.t 21, .k (.i .i64 16)], none⟩,
              ⟨some 20, .mv, [.t 22], none⟩] [0, 20])
           (.cond (.t 20)
             (.seq (.ops [⟨some 23, .mv, [.t 0], none⟩,
                ⟨some 24, .bin .add, [.t 23, .k (.i .i64 13)], none⟩,
                ⟨some 2, .mv, [.t 24], none⟩] [2])
             (.ret))
             (.skip)))))))))) c34t2
def c34 : CC :=
  .seq (.ops [⟨some 2, .mv, [.k (.i .i64 0)], none⟩] [0]) c34t1
def r34 : List RV := [.t 2]
theorem e34 : compF Tryd.prog 34 [(9, [2]), (2, [2]), (4, [2]), (6, [2]), (8, [2]), (7, [0, 20]), (5, [0, 15]), (3, [0, 10]), (1, [0, 3]), (0, [0])] = some (c34, r34, 27) := by kernel_rfl
def c35t4 : CC :=
  .ret
def c35t3 : CC :=
  .seq (.ops [⟨some 17, .mv, [.t 6], none⟩,
     ⟨some 18, .mv, [.t 6], none⟩,
     ⟨some 19, .bin .neq, [.t 18, .k (.s [])], none⟩,
     ⟨some 4, .mv, [.t 17], none⟩,
     ⟨some 5, .mv, [.t 19], none⟩] [4, 5]) c35t4
def c35t2 : CC :=
  .seq (.ops [⟨some 10, .mv, [.t 0], none⟩,
     ⟨some 11, .mv, [.t 1], none⟩,
     ⟨some 12, .bin .sub, [.t 11, .k (.i .i64 17)], none⟩,
     ⟨some 13, .nilchk, [.t 10], none⟩,
     ⟨some 14, .fadr 0, [.t 13], none⟩,
     ⟨some 15, .iadrA 18 1, [.t 14, .t 12], none⟩,
     ⟨some 16, .load 1 false, [.t 15], none⟩,
     ⟨some 6, .mv, [.t 16], none⟩] [6]) c35t3
def c35t1 : CC :=
  .seq (.seq (.ops [⟨some 7, .mv, [.t 1], none⟩,
      ⟨some 8, .call 39, [.t 7], none⟩,
      ⟨some 9, .not, [.t 8], none⟩] [0, 1, 9])
   (.cond (.t 9)
     (.seq (.ops [⟨some 4, .mv, [.k (.s [])], none⟩,
        ⟨some 5, .mv, [.k (.b false)], none⟩] [4, 5])
     (.ret))
     (.skip))) c35t2
def c35 : CC :=
  .seq (.ops [⟨some 4, .mv, [.k (.s [])], none⟩,
     ⟨some 5, .mv, [.k (.b false)], none⟩] [0, 1]) c35t1
def r35 : List RV := [.t 4, .t 5]
theorem e35 : compF Tryd.prog 35 [(4, [4, 5]), (3, [6]), (2, [4, 5]), (1, [0, 1, 9]), (0, [0, 1])] = some (c35, r35, 20) := by kernel_rfl
def c36t2 : CC :=
  .ret
def c36t1 : CC :=
  .seq (.ops [⟨some 5, .fadr 6, [.t 2], none⟩,
     ⟨some 6, .load 1 false, [.t 5], none⟩,
     ⟨some 7, .mv, [.t 1], none⟩,
     ⟨some 8, .buildSlice 1, [.t 7], none⟩,
     ⟨some 9, .call 31, [.t 6, .k (.s [126]), .t 8], none⟩,
     ⟨some 4, .mv, [.t 9], none⟩] [4]) c36t2
def c36 : CC :=
  .seq (.ops [⟨some 2, .box, [.t 0], none⟩,
     ⟨some 4, .mv, [.k (.c (.slice none 0 0))], none⟩] [1, 2]) c36t1
def r36 : List RV := [.t 4]
theorem e36 : compF Tryd.prog 36 [(1, [4]), (0, [1, 2])] = some (c36, r36, 10) := by kernel_rfl
def c37t11 : CC :=
  .ret
def c37t10 : CC :=
  .seq (.ops [⟨some 62, .mv, [.t 9], none⟩,
     ⟨some 63, .mv, [.t 10], none⟩,
     ⟨some 64, .bin .add, [.t 63, .k (.i .i64 1)], none⟩,
     ⟨some 65, .sliceSl 1 false true, [.t 62, .t 64], none⟩,
     ⟨some 8, .mv, [.t 65], none⟩] [8]) c37t11
def c37t9 : CC :=
  .seq (.ops [⟨some 58, .mv, [.t 9], none⟩,
     ⟨some 59, .mv, [.t 10], none⟩,
     ⟨some 60, .mv, [.t 0], none⟩,
     ⟨some 61, .iadrS 1, [.t 58, .t 59], none⟩,
     ⟨none, .store 1, [.t 61, .t 60], none⟩] [9, 10]) c37t10
def c37L0 : CC :=
  .loop (.seq (.seq (.ops [⟨some 34, .mv, [.t 10], none⟩,
       ⟨some 35, .mv, [.t 3], none⟩,
       ⟨some 36, .bin .lss, [.t 34, .t 35], none⟩] [0, 1, 2, 3, 9, 10, 36])
    (.cond (.t 36)
      (.skip)
      (.exit 0)))
   (.block 1 (.seq (.ops [⟨some 37, .mv, [.t 0], none⟩,
        ⟨some 38, .mv, [.t 1], none⟩,
        ⟨some 39, .call 49, [.t 37, .t 38], none⟩,
        ⟨some 11, .mv, [.t 39], none⟩] [0, 1, 2, 3, 9, 10, 11])
     (.seq (.seq (.ops [⟨some 40, .mv, [.t 11], none⟩,
         ⟨some 41, .bin .lss, [.t 40, .k (.i .i64 0)], none⟩] [0, 1, 2, 3, 9, 10, 11, 41])
      (.cond (.t 41)
        (.exit 0)
        (.skip)))
     (.seq (.ops [⟨some 42, .mv, [.t 9], none⟩,
        ⟨some 43, .mv, [.t 10], none⟩,
        ⟨some 44, .mv, [.t 0], none⟩,
        ⟨some 45, .mv, [.t 11], none⟩,
        ⟨some 46, .mv, [.t 2], none⟩,
        ⟨some 47, .bin .add, [.t 45, .t 46], none⟩,
        ⟨some 48, .sliceStr false true, [.t 44, .t 47], none⟩,
        ⟨some 49, .iadrS 1, [.t 42, .t 43], none⟩,
        ⟨none, .store 1, [.t 49, .t 48], none⟩] [0, 1, 2, 3, 9, 10, 11])
     (.seq (.ops [⟨some 50, .mv, [.t 0], none⟩,
        ⟨some 51, .mv, [.t 11], none⟩,
        ⟨some 52, .mv, [.t 1], none⟩,
        ⟨some 53, .lenStr, [.t 52], none⟩,
        ⟨some 54, .bin .add, [.t 51, .t 53], none⟩,
        ⟨some 55, .sliceStr true false, [.t 50, .t 54], none⟩,
        ⟨some 0, .mv, [.t 55], none⟩] [0, 1, 2, 3, 9, 10])
     (.ops [⟨some 56, .mv, [.t 10], none⟩,
       ⟨some 57, .bin .add, [.t 56, .k (.i .i64 1)], none⟩,
       ⟨some 10, .mv, [.t 57], none⟩] [0, 1, 2, 3, 9, 10])))))))
def c37t8 : CC :=
  .seq (.block 0 (c37L0)) c37t9
def c37t7 : CC :=
  .seq (.ops [⟨some 10, .mv, [.k (.i .i64 0)], none⟩] [0, 1, 2, 3, 9, 10]) c37t8
def c37t6 : CC :=
  .seq (.ops [⟨some 32, .mv, [.t 3], none⟩,
     ⟨some 33, .bin .sub, [.t 32, .k (.i .i64 1)], none⟩,
     ⟨some 3, .mv, [.t 33], none⟩] [0, 1, 2, 3, 9]) c37t7
def c37t5 : CC :=
  .seq (.ops [⟨some 30, .mv, [.t 3], none⟩,
     ⟨some 31, .make 1 16 (.s []), [.t 30, .t 30], none⟩,
     ⟨some 9, .mv, [.t 31], none⟩] [0, 1, 2, 3, 9]) c37t6
def c37t4 : CC :=
  .seq (.ops [⟨some 25, .mv, [.t 3], none⟩,
     ⟨some 26, .mv, [.t 0], none⟩,
     ⟨some 27, .lenStr, [.t 26], none⟩,
     ⟨some 28, .bin .add, [.t 27, .k (.i .i64 1)], none⟩,
     ⟨some 29, .min, [.t 25, .t 28], none⟩,
     ⟨some 3, .mv, [.t 29], none⟩] [0, 1, 2, 3]) c37t5
def c37t3 : CC :=
  .seq (.seq (.ops [⟨some 19, .mv, [.t 3], none⟩,
      ⟨some 20, .bin .lss, [.t 19, .k (.i .i64 0)], none⟩] [0, 1, 2, 3, 20])
   (.cond (.t 20)
     (.ops [⟨some 21, .mv, [.t 0], none⟩,
       ⟨some 22, .mv, [.t 1], none⟩,
       ⟨some 23, .call 48, [.t 21, .t 22], none⟩,
       ⟨some 24, .bin .add, [.t 23, .k (.i .i64 1)], none⟩,
       ⟨some 3, .mv, [.t 24], none⟩] [0, 1, 2, 3])
     (.skip))) c37t4
def c37t2 : CC :=
  .seq (.seq (.ops [⟨some 14, .mv, [.t 1], none⟩,
      ⟨some 15, .bin .eql, [.t 14, .k (.s [])], none⟩] [0, 1, 2, 3, 15])
   (.cond (.t 15)
     (.seq (.ops [⟨some 16, .mv, [.t 0], none⟩,
        ⟨some 17, .mv, [.t 3], none⟩,
        ⟨some 18, .call 47, [.t 16, .t 17], none⟩,
        ⟨some 8, .mv, [.t 18], none⟩] [8])
     (.ret))
     (.skip))) c37t3
def c37t1 : CC :=
  .seq (.seq (.ops [⟨some 12, .mv, [.t 3], none⟩,
      ⟨some 13, .bin .eql, [.t 12, .k (.i .i64 0)], none⟩] [0, 1, 2, 3, 13])
   (.cond (.t 13)
     (.seq (.ops [⟨some 8, .mv, [.k (.c (.slice none 0 0))], none⟩] [8])
     (.ret))
     (.skip))) c37t2
def c37 : CC :=
  .seq (.ops [⟨some 8, .mv, [.k (.c (.slice none 0 0))], none⟩] [0, 1, 2, 3]) c37t1
def r37 : List RV := [.t 8]
theorem e37 : compF Tryd.prog 37 [(18, [8]), (17, [9, 10]), (16, [0, 1, 2, 3, 9, 10]), (15, [0, 1, 2, 3, 9, 10]), (14, [0, 1, 2, 3, 9, 10, 11]), (13, [0, 1, 2, 3, 9, 10, 11, 41]), (12, [0, 1, 2, 3, 9, 10, 11]), (11, [0, 1, 2, 3, 9, 10, 36]), (10, [0, 1, 2, 3, 9, 10]), (9, [0, 1, 2, 3, 9]), (8, [0, 1, 2, 3, 9]), (7, [0, 1, 2, 3]), (6, [0, 1, 2, 3]), (5, [0, 1, 2, 3, 20]), (4, [8]), (3, [0, 1, 2, 3, 15]), (2, [8]), (1, [0, 1, 2, 3, 13]), (0, [0, 1, 2, 3])] = some (c37, r37, 66) := by kernel_rfl
def c38t3 : CC :=
  .ret
def c38t2 : CC :=
  .seq (.ops [⟨some 22, .mv, [.t 0], none⟩,
     ⟨some 4, .mv, [.t 22], none⟩,
     ⟨some 5, .mv, [.k (.s [])], none⟩,
     ⟨some 6, .mv, [.k (.b false)], none⟩] [4, 5, 6]) c38t3
def c38t1 : CC :=
  .seq (.seq (.ops [⟨some 8, .mv, [.t 0], none⟩,
      ⟨some 9, .mv, [.t 1], none⟩,
      ⟨some 10, .call 50, [.t 8, .t 9], none⟩,
      ⟨some 7, .mv, [.t 10], none⟩] [0, 1, 7])
   (.seq (.ops [⟨some 11, .mv, [.t 7], none⟩,
      ⟨some 12, .bin .geq, [.t 11, .k (.i .i64 0)], none⟩] [0, 1, 7, 12])
   (.cond (.t 12)
     (.seq (.par [(⟨some 13, .mv, [.t 0], none⟩, []),
        (⟨some 14, .mv, [.t 7], none⟩, []),
        (⟨some 15, .sliceStr false true, [.t 13, .t 14], none⟩, []),
        (⟨some 16, .mv, [.t 0], none⟩, []),
        (⟨some 17, .mv, [.t 7], none⟩, []),
        (⟨some 18, .mv, [.t 1], none⟩, []),
        (⟨some 19, .lenStr, [.t 18], none⟩, []),
        (⟨some 20, .bin .add, [.t 17, .t 19], none⟩, []),
        (⟨some 21, .sliceStr true false, [.t 16, .t 20], none⟩, []),
        (⟨some 4, .mv, [.t 15], none⟩, []),
        (⟨some 5, .mv, [.t 21], none⟩, []),
        (⟨some 6, .mv, [.k (.b true)], none⟩, [])] [4, 5, 6])
     (.ret))
     (.skip)))) c38t2
def c38 : CC :=
  .seq (.ops [⟨some 4, .mv, [.k (.s [])], none⟩,
     ⟨some 5, .mv, [.k (.s [])], none⟩,
     ⟨some 6, .mv, [.k (.b false)], none⟩] [0, 1]) c38t1
def r38 : List RV := [.t 4, .t 5, .t 6]
theorem e38 : compF Tryd.prog 38 [(4, [4, 5, 6]), (3, [4, 5, 6]), (2, [0, 1, 7, 12]), (1, [0, 1, 7]), (0, [0, 1])] = some (c38, r38, 23) := by kernel_rfl
def c39t3 : CC :=
  .ret
def c39t2 : CC :=
  .seq (.ops [⟨some 8, .mv, [.t 0], none⟩,
     ⟨some 9, .bin .geq, [.t 8, .k (.i .i64 17)], none⟩,
     ⟨some 10, .mv, [.t 9], none⟩,
     ⟨some 11, .mv, [.t 0], some (10, true, true)⟩,
     ⟨some 12, .bin .leq, [.t 11, .k (.i .i64 34)], some (10, true, true)⟩,
     ⟨some 13, .pick, [.t 10, .t 12, .k (.b false)], none⟩,
     ⟨some 2, .mv, [.t 13], none⟩] [2]) c39t3
def c39t1 : CC :=
  .seq (.seq (.ops [⟨some 3, .mv, [.t 0], none⟩] [0, 3])
   (.block 0 (.seq (.seq (.ops [⟨some 5, .bin .eql, [.t 3, .k (.i .i64 22)], none⟩,
         ⟨some 4, .mv, [.t 5], none⟩] [0, 3, 4])
      (.cond (.t 4)
        (.skip)
        (.seq (.ops [⟨some 6, .bin .eql, [.t 3, .k (.i .i64 27)], none⟩,
           ⟨some 4, .mv, [.t 6], none⟩] [0, 3, 4])
        (.cond (.t 4)
          (.skip)
          (.ops [⟨some 7, .bin .eql, [.t 3, .k (.i .i64 30)], none⟩,
            ⟨some 4, .mv, [.t 7], none⟩] [0, 4])))))
     (.cond (.t 4)
       (.seq (.ops [⟨some 2, .mv, [.k (.b false)], none⟩] [2])
       (.ret))
       (.skip))))) c39t2
def c39 : CC :=
  .seq (.ops [⟨some 2, .mv, [.k (.b false)], none⟩] [0]) c39t1
def r39 : List RV := [.t 2]
theorem e39 : compF Tryd.prog 39 [(6, [2]), (5, [2]), (4, [0, 4]), (3, [0, 3, 4]), (2, [0, 3, 4]), (1, [0, 3]), (0, [0])] = some (c39, r39, 14) := by kernel_rfl
def c40t3 : CC :=
  .ret
def c40t2 : CC :=
  .seq (.ops [⟨some 11, .mv, [.t 0], none⟩,
     ⟨some 12, .call 32, [.k (.s [48, 49, 50, 51, 52, 53, 54, 55, 56, 57, 65, 66, 67, 68, 69, 70]), .t 11], none⟩,
     ⟨some 2, .mv, [.t 12], none⟩] [2]) c40t3
def c40t1 : CC :=
  .seq (.seq (.ops [⟨some 3, .mv, [.t 0], none⟩,
      ⟨some 4, .bin .geq, [.t 3, .k (.i .u8 97)], none⟩,
      ⟨some 5, .mv, [.t 4], none⟩,
      ⟨some 6, .mv, [.t 0], some (5, true, true)⟩,
      ⟨some 7, .bin .leq, [.t 6, .k (.i .u8 102)], some (5, true, true)⟩,
      ⟨some 8, .pick, [.t 5, .t 7, .k (.b false)], none⟩] [0, 8])
   (.cond (.t 8)
     (.ops [⟨some 9, .mv, [.t 0], none⟩,
       ⟨some 10, .bin .sub, [.t 9, .k (.i .u8 32)], none⟩,
       ⟨some 0, .mv, [.t 10], none⟩] [0])
     (.skip))) c40t2
def c40 : CC :=
  .seq (.ops [⟨some 2, .mv, [.k (.i .i64 0)], none⟩] [0]) c40t1
def r40 : List RV := [.t 2]
theorem e40 : compF Tryd.prog 40 [(3, [2]), (2, [0]), (1, [0, 8]), (0, [0])] = some (c40, r40, 13) := by kernel_rfl
def c44t7 : CC :=
  .ret
def c44t6 : CC :=
  .seq (.ops [⟨some 75, .load 6 true, [.t 7], none⟩,
     ⟨none, .store 6, [.t 6, .t 75], none⟩] [6]) c44t7
def c44L0 : CC :=
  .loop (.seq (.ops [⟨some 64, .bin .lss, [.t 63, .t 62], none⟩] [6, 7, 61, 62, 63, 64])
   (.seq (.cond (.t 64)
      (.skip)
      (.exit 0))
   (.seq (.block 1 (.seq (.ops [⟨some 65, .mv, [.t 63], none⟩,
         ⟨some 66, .iadrS 1, [.t 61, .t 63], none⟩,
         ⟨some 67, .load 1 false, [.t 66], none⟩,
         ⟨some 9, .mv, [.t 65], none⟩,
         ⟨some 10, .mv, [.t 67], none⟩] [6, 7, 9, 10, 61, 62, 63])
      (.par [(⟨some 68, .fadr 3, [.t 7], none⟩, []),
        (⟨some 69, .load 1 false, [.t 68], none⟩, []),
        (⟨some 70, .mv, [.t 9], none⟩, []),
        (⟨some 71, .mv, [.t 10], none⟩, []),
        (⟨some 72, .call 54, [.t 71, .k (.i .i64 0), .k (.i .i64 65535)], none⟩, [⟨some 69, .load 1 false, [.t 68], none⟩]),
        (⟨some 73, .iadrS 1, [.t 69, .t 70], none⟩, []),
        (⟨none, .store 1, [.t 73, .t 72], none⟩, [])] [6, 7, 61, 62, 63])))
   (.ops [⟨some 74, .bin .add, [.t 63, .k (.i .i64 1)], none⟩,
     ⟨some 63, .mv, [.t 74], none⟩] [6, 7, 61, 62, 63]))))
def c44t5 : CC :=
  .seq (.seq (.ops [⟨some 60, .fadr 3, [.t 7], none⟩,
      ⟨some 61, .load 1 false, [.t 60], none⟩,
      ⟨some 62, .lenSl, [.t 61], none⟩,
      ⟨some 63, .mv, [.k (.i .i64 0)], none⟩] [6, 7, 61, 62, 63])
   (.block 0 (c44L0))) c44t6
def c44t4 : CC :=
  .seq (.ops [⟨some 52, .fadr 3, [.t 7], none⟩,
     ⟨some 53, .load 1 false, [.t 52], none⟩,
     ⟨some 54, .fadr 3, [.t 7], none⟩,
     ⟨some 55, .load 1 false, [.t 54], none⟩,
     ⟨some 56, .lenSl, [.t 55], none⟩,
     ⟨some 57, .min, [.t 56, .k (.i .i64 30)], none⟩,
     ⟨some 58, .sliceSl 1 false true, [.t 53, .t 57], none⟩,
     ⟨some 59, .fadr 3, [.t 7], none⟩,
     ⟨none, .store 1, [.t 59, .t 58], none⟩] [6, 7]) c44t5
def c44t3 : CC :=
  .seq (.seq (.ops [⟨some 39, .mv, [.t 1], none⟩,
      ⟨some 40, .lenStr, [.t 39], none⟩,
      ⟨some 41, .bin .sub, [.t 40, .k (.i .i64 1)], none⟩,
      ⟨some 8, .mv, [.t 41], none⟩] [1, 6, 7, 8])
   (.seq (.ops [⟨some 42, .mv, [.t 8], none⟩,
      ⟨some 43, .bin .geq, [.t 42, .k (.i .i64 0)], none⟩] [1, 6, 7, 8, 43])
   (.cond (.t 43)
     (.par [(⟨some 44, .mv, [.t 1], none⟩, []),
       (⟨some 45, .mv, [.t 8], none⟩, []),
       (⟨some 46, .sliceStr false true, [.t 44, .t 45], none⟩, []),
       (⟨some 47, .mv, [.t 1], none⟩, []),
       (⟨some 48, .mv, [.t 8], none⟩, []),
       (⟨some 49, .idxS, [.t 47, .t 48], none⟩, []),
       (⟨some 50, .fadr 4, [.t 7], none⟩, []),
       (⟨none, .store 1, [.t 50, .t 46], none⟩, []),
       (⟨some 51, .fadr 1, [.t 7], none⟩, []),
       (⟨none, .store 1, [.t 51, .t 49], none⟩, [])] [6, 7])
     (.skip)))) c44t4
def c44t2 : CC :=
  .seq (.seq (.ops [⟨some 17, .mv, [.t 1], none⟩,
      ⟨some 18, .bin .neq, [.t 17, .k (.s [])], none⟩,
      ⟨some 19, .mv, [.t 18], none⟩,
      ⟨some 20, .mv, [.t 1], some (19, true, true)⟩,
      ⟨some 21, .idxS, [.t 20, .k (.i .i64 0)], some (19, true, false)⟩,
      ⟨some 22, .bin .geq, [.t 21, .k (.i .u8 60)], some (19, true, false)⟩,
      ⟨some 23, .pick, [.t 19, .t 22, .k (.b false)], none⟩,
      ⟨some 24, .mv, [.t 23], none⟩,
      ⟨some 25, .mv, [.t 1], some (24, true, true)⟩,
      ⟨some 26, .idxS, [.t 25, .k (.i .i64 0)], some (24, true, false)⟩,
      ⟨some 27, .bin .leq, [.t 26, .k (.i .u8 63)], some (24, true, false)⟩,
      ⟨some 28, .pick, [.t 24, .t 27, .k (.b false)], none⟩,
      ⟨some 29, .mv, [.t 28], none⟩,
      ⟨some 30, .mv, [.t 1], some (29, true, true)⟩,
      ⟨some 31, .lenStr, [.t 30], some (29, true, true)⟩,
      ⟨some 32, .bin .gtr, [.t 31, .k (.i .i64 1)], some (29, true, true)⟩,
      ⟨some 33, .pick, [.t 29, .t 32, .k (.b false)], none⟩] [1, 6, 7, 33])
   (.cond (.t 33)
     (.par [(⟨some 34, .mv, [.t 1], none⟩, []),
       (⟨some 35, .idxS, [.t 34, .k (.i .i64 0)], none⟩, []),
       (⟨some 36, .mv, [.t 1], none⟩, []),
       (⟨some 37, .sliceStr true false, [.t 36, .k (.i .i64 1)], none⟩, []),
       (⟨some 38, .fadr 2, [.t 7], none⟩, []),
       (⟨none, .store 1, [.t 38, .t 35], none⟩, []),
       (⟨some 1, .mv, [.t 37], none⟩, [])] [1, 6, 7])
     (.skip))) c44t3
def c44t1 : CC :=
  .seq (.ops [⟨some 11, .mv, [.t 0], none⟩,
     ⟨some 12, .mv, [.t 2], none⟩,
     ⟨some 13, .build [.i .i64 0, .i .u8 0, .i .u8 0, .c (.slice none 0 0), .s [], .c (.slice none 0 0)] [(3, 1)], [.t 12], none⟩,
     ⟨some 14, .call 53, [.t 13], none⟩,
     ⟨some 15, .field 3 1 false, [.t 14], none⟩,
     ⟨some 16, .build [.i .i64 0, .i .u8 0, .i .u8 0, .c (.slice none 0 0), .s [], .c (.slice none 0 0)] [(0, 1), (3, 1)], [.t 11, .t 15], none⟩,
     ⟨some 7, .alloc (.agg [.i .i64 0, .i .u8 0, .i .u8 0, .c (.slice none 0 0), .s [], .c (.slice none 0 0)]), [], none⟩,
     ⟨none, .store 6, [.t 7, .t 16], none⟩] [1, 6, 7]) c44t2
def c44 : CC :=
  .seq (.ops [⟨some 6, .alloc (.agg [.i .i64 0, .i .u8 0, .i .u8 0, .c (.slice none 0 0), .s [], .c (.slice none 0 0)]), [], none⟩] [0, 1, 2, 6]) c44t1
def r44 : List RV := [.cell 6 6 true]
theorem e44 : compF Tryd.prog 44 [(13, [6]), (12, [6, 7, 61, 62, 63]), (11, [6, 7, 61, 62, 63]), (10, [6, 7, 9, 10, 61, 62, 63]), (9, [6, 7, 61, 62, 63, 64]), (8, [6, 7, 61, 62, 63]), (7, [6, 7]), (6, [6, 7]), (5, [1, 6, 7, 8, 43]), (4, [1, 6, 7, 8]), (3, [1, 6, 7]), (2, [1, 6, 7, 33]), (1, [1, 6, 7]), (0, [0, 1, 2, 6])] = some (c44, r44, 76) := by kernel_rfl
def c45t10 : CC :=
  .ret
def c45t9 : CC :=
  .seq (.ops [⟨some 84, .mv, [.t 7], none⟩,
     ⟨some 4, .mv, [.t 84], none⟩,
     ⟨some 5, .mv, [.k (.i .i64 0)], none⟩] [4, 5]) c45t10
def c45t8 : CC :=
  .seq (.seq (.ops [⟨some 75, .fadr 0, [.t 2], none⟩,
      ⟨some 76, .load 1 false, [.t 75], none⟩,
      ⟨some 77, .bin .geq, [.t 76, .k (.i .i64 5)], none⟩] [1, 2, 7, 77])
   (.cond (.t 77)
     (.ops [⟨some 78, .mv, [.t 7], none⟩,
       ⟨some 79, .fadr 5, [.t 2], none⟩,
       ⟨some 80, .load 1 false, [.t 79], none⟩,
       ⟨some 81, .append 1 1, [.t 78, .t 80], none⟩,
       ⟨some 82, .mv, [.t 1], none⟩,
       ⟨some 83, .call 56, [.t 81, .k (.i .u8 92), .t 82], none⟩,
       ⟨some 7, .mv, [.t 83], none⟩] [7])
     (.skip))) c45t9
def c45t7 : CC :=
  .seq (.seq (.ops [⟨some 67, .fadr 1, [.t 2], none⟩,
      ⟨some 68, .load 1 false, [.t 67], none⟩,
      ⟨some 69, .bin .neq, [.t 68, .k (.i .u8 0)], none⟩] [1, 2, 7, 69])
   (.cond (.t 69)
     (.ops [⟨some 70, .mv, [.t 7], none⟩,
       ⟨some 71, .fadr 1, [.t 2], none⟩,
       ⟨some 72, .load 1 false, [.t 71], none⟩,
       ⟨some 73, .buildSlice 1, [.t 72], none⟩,
       ⟨some 74, .append 1 1, [.t 70, .t 73], none⟩,
       ⟨some 7, .mv, [.t 74], none⟩] [1, 2, 7])
     (.skip))) c45t8
def c45t6 : CC :=
  .seq (.par [(⟨some 59, .mv, [.t 7], none⟩, []),
     (⟨some 60, .fadr 3, [.t 2], none⟩, []),
     (⟨some 61, .load 1 false, [.t 60], none⟩, []),
     (⟨some 64, .fadr 4, [.t 2], none⟩, []),
     (⟨some 65, .load 1 false, [.t 64], none⟩, []),
     (⟨some 62, .call 58, [.t 61], none⟩, [⟨some 65, .load 1 false, [.t 64], none⟩]),
     (⟨some 63, .append 1 1, [.t 59, .t 62], none⟩, [⟨some 65, .load 1 false, [.t 64], none⟩]),
     (⟨some 66, .append 1 1, [.t 63, .t 65], none⟩, []),
     (⟨some 7, .mv, [.t 66], none⟩, [])] [1, 2, 7]) c45t7
def c45t5 : CC :=
  .seq (.seq (.ops [⟨some 51, .fadr 2, [.t 2], none⟩,
      ⟨some 52, .load 1 false, [.t 51], none⟩,
      ⟨some 53, .bin .neq, [.t 52, .k (.i .u8 0)], none⟩] [1, 2, 7, 53])
   (.cond (.t 53)
     (.ops [⟨some 54, .mv, [.t 7], none⟩,
       ⟨some 55, .fadr 2, [.t 2], none⟩,
       ⟨some 56, .load 1 false, [.t 55], none⟩,
       ⟨some 57, .buildSlice 1, [.t 56], none⟩,
       ⟨some 58, .append 1 1, [.t 54, .t 57], none⟩,
       ⟨some 7, .mv, [.t 58], none⟩] [1, 2, 7])
     (.skip))) c45t6
def c45t4 : CC :=
  .seq (.block 0 (.seq (.ops [⟨some 31, .fadr 0, [.t 2], none⟩,
        ⟨some 32, .load 1 false, [.t 31], none⟩,
        ⟨some 33, .bin .eql, [.t 32, .k (.i .i64 3)], none⟩,
        ⟨some 34, .mv, [.t 33], none⟩,
        ⟨some 35, .fadr 4, [.t 2], some (34, true, true)⟩,
        ⟨some 36, .load 1 false, [.t 35], some (34, true, true)⟩,
        ⟨some 37, .bin .eql, [.t 36, .k (.s [])], some (34, true, true)⟩,
        ⟨some 38, .pick, [.t 34, .t 37, .k (.b false)], none⟩,
        ⟨some 30, .mv, [.t 38], none⟩] [1, 2, 7, 30])
     (.cond (.t 30)
       (.seq (.ops [⟨some 39, .mv, [.t 7], none⟩,
          ⟨some 40, .fadr 1, [.t 2], none⟩,
          ⟨some 41, .load 1 false, [.t 40], none⟩,
          ⟨some 42, .mv, [.t 1], none⟩,
          ⟨some 43, .call 56, [.t 39, .t 41, .t 42], none⟩,
          ⟨some 4, .mv, [.t 43], none⟩,
          ⟨some 5, .mv, [.k (.i .i64 0)], none⟩] [4, 5])
       (.ret))
       (.seq (.ops [⟨some 45, .fadr 0, [.t 2], none⟩,
          ⟨some 46, .load 1 false, [.t 45], none⟩,
          ⟨some 47, .bin .eql, [.t 46, .k (.i .i64 3)], none⟩,
          ⟨some 44, .mv, [.t 47], none⟩] [1, 2, 7, 44])
       (.cond (.t 44)
         (.ops [⟨some 48, .mv, [.t 7], none⟩,
           ⟨some 49, .buildSlice 1, [.k (.i .u8 27)], none⟩,
           ⟨some 50, .append 1 1, [.t 48, .t 49], none⟩,
           ⟨some 7, .mv, [.t 50], none⟩] [1, 2, 7])
         (.ops [⟨some 24, .mv, [.t 7], none⟩,
           ⟨some 25, .fadr 0, [.t 2], none⟩,
           ⟨some 26, .load 1 false, [.t 25], none⟩,
           ⟨some 27, .call 57, [.t 26], none⟩,
           ⟨some 28, .mv, [.t 1], none⟩,
           ⟨some 29, .call 56, [.t 24, .t 27, .t 28], none⟩,
           ⟨some 7, .mv, [.t 29], none⟩] [1, 2, 7])))))) c45t5
def c45t3 : CC :=
  .seq (.ops [⟨some 7, .mv, [.k (.c (.slice none 0 0))], none⟩] [1, 2, 7]) c45t4
def c45t2 : CC :=
  .seq (.seq (.ops [⟨some 13, .fadr 0, [.t 2], none⟩,
      ⟨some 14, .load 1 false, [.t 13], none⟩,
      ⟨some 15, .bin .eql, [.t 14, .k (.i .i64 1)], none⟩,
      ⟨some 16, .mv, [.t 15], none⟩,
      ⟨some 17, .fadr 0, [.t 2], some (16, false, true)⟩,
      ⟨some 18, .load 1 false, [.t 17], some (16, false, true)⟩,
      ⟨some 19, .bin .eql, [.t 18, .k (.i .i64 2)], some (16, false, true)⟩,
      ⟨some 20, .pick, [.t 16, .k (.b true), .t 19], none⟩] [1, 2, 20])
   (.cond (.t 20)
     (.seq (.ops [⟨some 21, .fadr 1, [.t 2], none⟩,
        ⟨some 22, .load 1 false, [.t 21], none⟩,
        ⟨some 23, .buildSlice 1, [.t 22], none⟩,
        ⟨some 4, .mv, [.t 23], none⟩,
        ⟨some 5, .mv, [.k (.i .i64 0)], none⟩] [4, 5])
     (.ret))
     (.skip))) c45t3
def c45t1 : CC :=
  .seq (.seq (.ops [⟨some 8, .load 6 true, [.t 2], none⟩,
      ⟨some 9, .call 55, [.t 8], none⟩,
      ⟨some 6, .mv, [.t 9], none⟩] [1, 2, 6])
   (.seq (.ops [⟨some 10, .mv, [.t 6], none⟩,
      ⟨some 11, .bin .neq, [.t 10, .k (.i .i64 0)], none⟩] [1, 2, 6, 11])
   (.cond (.t 11)
     (.seq (.ops [⟨some 12, .mv, [.t 6], none⟩,
        ⟨some 4, .mv, [.k (.c (.slice none 0 0))], none⟩,
        ⟨some 5, .mv, [.t 12], none⟩] [4, 5])
     (.ret))
     (.skip)))) c45t2
def c45 : CC :=
  .seq (.ops [⟨some 2, .box, [.t 0], none⟩,
     ⟨some 4, .mv, [.k (.c (.slice none 0 0))], none⟩,
     ⟨some 5, .mv, [.k (.i .i64 0)], none⟩] [1, 2]) c45t1
def r45 : List RV := [.t 4, .t 5]
theorem e45 : compF Tryd.prog 45 [(19, [4, 5]), (18, [7]), (17, [1, 2, 7, 77]), (16, [1, 2, 7]), (15, [1, 2, 7, 69]), (14, [1, 2, 7]), (13, [1, 2, 7]), (12, [1, 2, 7, 53]), (9, [4, 5]), (11, [1, 2, 7]), (7, [1, 2, 7]), (10, [1, 2, 7, 44]), (8, [1, 2, 7, 30]), (6, [1, 2, 7]), (5, [4, 5]), (4, [1, 2, 20]), (3, [4, 5]), (2, [1, 2, 6, 11]), (1, [1, 2, 6]), (0, [1, 2])] = some (c45, r45, 85) := by kernel_rfl
def c53t3 : CC :=
  .ret
def c53t2 : CC :=
  .seq (.ops [⟨some 11, .load 6 true, [.t 1], none⟩,
     ⟨none, .store 6, [.t 2, .t 11], none⟩] [2]) c53t3
def c53t1 : CC :=
  .seq (.par [(⟨some 3, .fadr 3, [.t 1], none⟩, []),
     (⟨some 4, .load 1 false, [.t 3], none⟩, []),
     (⟨some 6, .fadr 5, [.t 1], none⟩, []),
     (⟨some 7, .load 1 false, [.t 6], none⟩, []),
     (⟨some 5, .call 68, [.t 4], none⟩, [⟨some 7, .load 1 false, [.t 6], none⟩]),
     (⟨some 9, .fadr 3, [.t 1], none⟩, []),
     (⟨some 8, .call 69, [.t 7], none⟩, []),
     (⟨none, .store 1, [.t 9, .t 5], none⟩, []),
     (⟨some 10, .fadr 5, [.t 1], none⟩, []),
     (⟨none, .store 1, [.t 10, .t 8], none⟩, [])] [1, 2]) c53t2
def c53 : CC :=
  .seq (.ops [⟨some 1, .box, [.t 0], none⟩,
     ⟨some 2, .alloc (.agg [.i .i64 0, .i .u8 0, .i .u8 0, .c (.slice none 0 0), .s [], .c (.slice none 0 0)]), [], none⟩] [1, 2]) c53t1
def r53 : List RV := [.cell 2 6 true]
theorem e53 : compF Tryd.prog 53 [(2, [2]), (1, [1, 2]), (0, [1, 2])] = some (c53, r53, 12) := by kernel_rfl
def c54t2 : CC :=
  .ret
def c54t1 : CC :=
  .seq (.ops [⟨some 7, .mv, [.t 1], none⟩,
     ⟨some 8, .mv, [.t 0], none⟩,
     ⟨some 9, .mv, [.t 2], none⟩,
     ⟨some 10, .min, [.t 8, .t 9], none⟩,
     ⟨some 11, .max, [.t 7, .t 10], none⟩,
     ⟨some 6, .mv, [.t 11], none⟩] [6]) c54t2
def c54 : CC :=
  .seq (.ops [⟨some 6, .mv, [.k (.i .i64 0)], none⟩] [0, 1, 2]) c54t1
def r54 : List RV := [.t 6]
theorem e54 : compF Tryd.prog 54 [(1, [6]), (0, [0, 1, 2])] = some (c54, r54, 12) := by kernel_rfl
def c55t10 : CC :=
  .ret
def c55t9 : CC :=
  .seq (.ops [⟨some 2, .mv, [.k (.i .i64 0)], none⟩] [2]) c55t10
def c55t8 : CC :=
  .seq (.seq (.ops [⟨some 65, .fadr 2, [.t 1], none⟩,
      ⟨some 66, .load 1 false, [.t 65], none⟩,
      ⟨some 67, .bin .neq, [.t 66, .k (.i .u8 0)], none⟩,
      ⟨some 68, .mv, [.t 67], none⟩,
      ⟨some 69, .fadr 2, [.t 1], some (68, true, true)⟩,
      ⟨some 70, .load 1 false, [.t 69], some (68, true, true)⟩,
      ⟨some 71, .call 74, [.t 70, .k (.i .u8 60), .k (.i .u8 63)], some (68, true, false)⟩,
      ⟨some 72, .not, [.t 71], some (68, true, false)⟩,
      ⟨some 73, .pick, [.t 68, .t 72, .k (.b false)], none⟩,
      ⟨some 74, .mv, [.t 73], none⟩,
      ⟨some 75, .mv, [.t 3], some (74, false, true)⟩,
      ⟨some 76, .not, [.t 75], some (74, false, true)⟩,
      ⟨some 77, .pick, [.t 74, .k (.b true), .t 76], none⟩,
      ⟨some 78, .mv, [.t 77], none⟩,
      ⟨some 79, .load 6 true, [.t 8], some (78, false, true)⟩,
      ⟨some 80, .call 75, [.t 79], some (78, false, false)⟩,
      ⟨some 81, .not, [.t 80], some (78, false, false)⟩,
      ⟨some 82, .pick, [.t 78, .k (.b true), .t 81], none⟩] [82])
   (.cond (.t 82)
     (.seq (.ops [⟨some 2, .mv, [.k (.i .i64 3)], none⟩] [2])
     (.ret))
     (.skip))) c55t9
def c55t7 : CC :=
  .seq (.seq (.ops [⟨some 46, .fadr 0, [.t 1], none⟩,
      ⟨some 47, .load 1 false, [.t 46], none⟩] [1, 3, 8, 47])
   (.block 4 (.seq (.ops [⟨some 49, .bin .eql, [.t 47, .k (.i .i64 3)], none⟩,
        ⟨some 48, .mv, [.t 49], none⟩] [1, 3, 8, 47, 48])
     (.cond (.t 48)
       (.ops [⟨some 50, .fadr 4, [.t 8], none⟩,
         ⟨none, .store 1, [.t 50, .k (.s [])], none⟩] [1, 3, 8])
       (.seq (.ops [⟨some 52, .bin .eql, [.t 47, .k (.i .i64 4)], none⟩,
          ⟨some 51, .mv, [.t 52], none⟩] [1, 3, 8, 47, 51])
       (.cond (.t 51)
         (.ops [⟨some 53, .fadr 5, [.t 1], none⟩,
           ⟨some 54, .load 1 false, [.t 53], none⟩,
           ⟨some 55, .build [.i .i64 0, .i .u8 0, .i .u8 0, .c (.slice none 0 0), .s [], .c (.slice none 0 0)] [(5, 1)], [.t 54], none⟩,
           ⟨none, .store 6, [.t 8, .t 55], none⟩] [1, 3, 8])
         (.seq (.ops [⟨some 57, .bin .eql, [.t 47, .k (.i .i64 5)], none⟩,
            ⟨some 56, .mv, [.t 57], none⟩] [1, 3, 8, 47, 56])
         (.cond (.t 56)
           (.ops [⟨some 58, .build [.i .i64 0, .i .u8 0, .i .u8 0, .c (.slice none 0 0), .s [], .c (.slice none 0 0)] [], [], none⟩,
             ⟨none, .store 6, [.t 8, .t 58], none⟩] [1, 3, 8])
           (.seq (.seq (.ops [⟨some 60, .bin .eql, [.t 47, .k (.i .i64 6)], none⟩,
               ⟨some 59, .mv, [.t 60], none⟩] [1, 3, 8, 47, 59])
            (.cond (.t 59)
              (.skip)
              (.seq (.ops [⟨some 61, .bin .eql, [.t 47, .k (.i .i64 7)], none⟩,
                 ⟨some 59, .mv, [.t 61], none⟩] [1, 3, 8, 47, 59])
              (.cond (.t 59)
                (.skip)
                (.seq (.ops [⟨some 62, .bin .eql, [.t 47, .k (.i .i64 8)], none⟩,
                   ⟨some 59, .mv, [.t 62], none⟩] [1, 3, 8, 47, 59])
                (.cond (.t 59)
                  (.skip)
                  (.ops [⟨some 63, .bin .eql, [.t 47, .k (.i .i64 9)], none⟩,
                    ⟨some 59, .mv, [.t 63], none⟩] [1, 3, 8, 59])))))))
           (.cond (.t 59)
             (.ops [⟨some 64, .fadr 5, [.t 8], none⟩,
               ⟨none, .store 1, [.t 64, .k (.c (.slice none 0 0))], none⟩] [1, 3, 8])
             (.skip))))))))))) c55t8
def c55t6 : CC :=
  .seq (.ops [⟨some 45, .load 6 true, [.t 1], none⟩,
     ⟨some 8, .alloc (.agg [.i .i64 0, .i .u8 0, .i .u8 0, .c (.slice none 0 0), .s [], .c (.slice none 0 0)]), [], none⟩,
     ⟨none, .store 6, [.t 8, .t 45], none⟩] [1, 3, 8]) c55t7
def c55L0 : CC :=
  .loop (.seq (.ops [⟨some 36, .bin .lss, [.t 35, .t 34], none⟩] [1, 3, 33, 34, 35, 36])
   (.seq (.cond (.t 36)
      (.skip)
      (.exit 2))
   (.seq (.block 3 (.seq (.ops [⟨some 37, .iadrS 1, [.t 33, .t 35], none⟩,
         ⟨some 38, .load 1 false, [.t 37], none⟩,
         ⟨some 7, .mv, [.t 38], none⟩] [1, 3, 7, 33, 34, 35])
      (.ops [⟨some 39, .mv, [.t 3], none⟩,
        ⟨some 40, .mv, [.t 39], none⟩,
        ⟨some 41, .mv, [.t 7], some (40, true, true)⟩,
        ⟨some 42, .call 73, [.t 41], some (40, true, false)⟩,
        ⟨some 43, .pick, [.t 40, .t 42, .k (.b false)], none⟩,
        ⟨some 3, .mv, [.t 43], none⟩] [1, 3, 33, 34, 35])))
   (.ops [⟨some 44, .bin .add, [.t 35, .k (.i .i64 1)], none⟩,
     ⟨some 35, .mv, [.t 44], none⟩] [1, 3, 33, 34, 35]))))
def c55t5 : CC :=
  .seq (.seq (.ops [⟨some 32, .fadr 5, [.t 1], none⟩,
      ⟨some 33, .load 1 false, [.t 32], none⟩,
      ⟨some 34, .lenSl, [.t 33], none⟩,
      ⟨some 35, .mv, [.k (.i .i64 0)], none⟩] [1, 3, 33, 34, 35])
   (.block 2 (c55L0))) c55t6
def c55L1 : CC :=
  .loop (.seq (.ops [⟨some 24, .next, [.t 23], none⟩,
      ⟨some 25, .extract 0, [.t 24], none⟩] [1, 3, 23, 24, 25])
   (.seq (.cond (.t 25)
      (.skip)
      (.exit 0))
   (.block 1 (.seq (.ops [⟨some 26, .extract 2, [.t 24], none⟩,
        ⟨some 5, .mv, [.t 26], none⟩] [1, 3, 5, 23])
     (.ops [⟨some 27, .mv, [.t 3], none⟩,
       ⟨some 28, .mv, [.t 27], none⟩,
       ⟨some 29, .mv, [.t 5], some (28, true, true)⟩,
       ⟨some 30, .call 72, [.t 29], some (28, true, false)⟩,
       ⟨some 31, .pick, [.t 28, .t 30, .k (.b false)], none⟩,
       ⟨some 3, .mv, [.t 31], none⟩] [1, 3, 23])))))
def c55t4 : CC :=
  .seq (.seq (.ops [⟨some 21, .fadr 4, [.t 1], none⟩,
      ⟨some 22, .load 1 false, [.t 21], none⟩,
      ⟨some 23, .range, [.t 22], none⟩] [1, 3, 23])
   (.block 0 (c55L1))) c55t5
def c55t3 : CC :=
  .seq (.ops [⟨some 19, .load 6 true, [.t 1], none⟩,
     ⟨some 20, .call 71, [.t 19], none⟩,
     ⟨some 3, .mv, [.t 20], none⟩] [1, 3]) c55t4
def c55t2 : CC :=
  .seq (.seq (.ops [⟨some 17, .load 6 true, [.t 1], none⟩,
      ⟨some 18, .call 70, [.t 17], none⟩] [1, 18])
   (.cond (.t 18)
     (.seq (.ops [⟨some 2, .mv, [.k (.i .i64 2)], none⟩] [2])
     (.ret))
     (.skip))) c55t3
def c55t1 : CC :=
  .seq (.seq (.ops [⟨some 9, .fadr 0, [.t 1], none⟩,
      ⟨some 10, .load 1 false, [.t 9], none⟩,
      ⟨some 11, .bin .lss, [.t 10, .k (.i .i64 1)], none⟩,
      ⟨some 12, .mv, [.t 11], none⟩,
      ⟨some 13, .fadr 0, [.t 1], some (12, false, true)⟩,
      ⟨some 14, .load 1 false, [.t 13], some (12, false, true)⟩,
      ⟨some 15, .bin .gtr, [.t 14, .k (.i .i64 9)], some (12, false, true)⟩,
      ⟨some 16, .pick, [.t 12, .k (.b true), .t 15], none⟩] [1, 16])
   (.cond (.t 16)
     (.seq (.ops [⟨some 2, .mv, [.k (.i .i64 1)], none⟩] [2])
     (.ret))
     (.skip))) c55t2
def c55 : CC :=
  .seq (.ops [⟨some 1, .box, [.t 0], none⟩,
     ⟨some 2, .mv, [.k (.i .i64 0)], none⟩] [1]) c55t1
def r55 : List RV := [.t 2]
theorem e55 : compF Tryd.prog 55 [(30, [2]), (29, [2]), (28, [82]), (18, [1, 3, 8]), (20, [1, 3, 8]), (22, [1, 3, 8]), (27, [1, 3, 8]), (26, [1, 3, 8, 59]), (25, [1, 3, 8, 47, 59]), (24, [1, 3, 8, 47, 59]), (23, [1, 3, 8, 47, 59]), (21, [1, 3, 8, 47, 56]), (19, [1, 3, 8, 47, 51]), (17, [1, 3, 8, 47, 48]), (16, [1, 3, 8, 47]), (15, [1, 3, 8]), (14, [1, 3, 33, 34, 35]), (13, [1, 3, 33, 34, 35]), (12, [1, 3, 7, 33, 34, 35]), (11, [1, 3, 33, 34, 35, 36]), (10, [1, 3, 33, 34, 35]), (9, [1, 3, 23]), (8, [1, 3, 5, 23]), (7, [1, 3, 23, 24, 25]), (6, [1, 3, 23]), (5, [1, 3]), (4, [2]), (3, [1, 18]), (2, [2]), (1, [1, 16]), (0, [1])] = some (c55, r55, 83) := by kernel_rfl
def c56t3 : CC :=
  .ret
def c56t2 : CC :=
  .seq (.ops [⟨some 17, .mv, [.t 0], none⟩,
     ⟨some 18, .mv, [.t 1], none⟩,
     ⟨some 19, .buildSlice 1, [.k (.i .u8 27), .t 18], none⟩,
     ⟨some 20, .append 1 1, [.t 17, .t 19], none⟩,
     ⟨some 6, .mv, [.t 20], none⟩] [6]) c56t3
def c56t1 : CC :=
  .seq (.seq (.ops [⟨some 7, .mv, [.t 2], none⟩,
      ⟨some 8, .mv, [.t 7], none⟩,
      ⟨some 9, .mv, [.t 1], some (8, true, true)⟩,
      ⟨some 10, .call 74, [.t 9, .k (.i .u8 64), .k (.i .u8 95)], some (8, true, false)⟩,
      ⟨some 11, .pick, [.t 8, .t 10, .k (.b false)], none⟩] [0, 1, 11])
   (.cond (.t 11)
     (.seq (.ops [⟨some 12, .mv, [.t 0], none⟩,
        ⟨some 13, .mv, [.t 1], none⟩,
        ⟨some 14, .bin .add, [.t 13, .k (.i .u8 64)], none⟩,
        ⟨some 15, .buildSlice 1, [.t 14], none⟩,
        ⟨some 16, .append 1 1, [.t 12, .t 15], none⟩,
        ⟨some 6, .mv, [.t 16], none⟩] [6])
     (.ret))
     (.skip))) c56t2
def c56 : CC :=
  .seq (.ops [⟨some 6, .mv, [.k (.c (.slice none 0 0))], none⟩] [0, 1, 2]) c56t1
def r56 : List RV := [.t 6]
theorem e56 : compF Tryd.prog 56 [(3, [6]), (2, [6]), (1, [0, 1, 11]), (0, [0, 1, 2])] = some (c56, r56, 21) := by kernel_rfl
def c57t3 : CC :=
  .ret
def c57t2 : CC :=
  .seq (.ops [⟨some 2, .mv, [.k (.i .u8 0)], none⟩] [2]) c57t3
def c57t1 : CC :=
  .seq (.seq (.ops [⟨some 3, .mv, [.t 0], none⟩] [3])
   (.block 0 (.seq (.ops [⟨some 5, .bin .eql, [.t 3, .k (.i .i64 4)], none⟩,
        ⟨some 4, .mv, [.t 5], none⟩] [3, 4])
     (.cond (.t 4)
       (.seq (.ops [⟨some 2, .mv, [.k (.i .u8 91)], none⟩] [2])
       (.ret))
       (.seq (.ops [⟨some 7, .bin .eql, [.t 3, .k (.i .i64 5)], none⟩,
          ⟨some 6, .mv, [.t 7], none⟩] [3, 6])
       (.cond (.t 6)
         (.seq (.ops [⟨some 2, .mv, [.k (.i .u8 80)], none⟩] [2])
         (.ret))
         (.seq (.ops [⟨some 9, .bin .eql, [.t 3, .k (.i .i64 6)], none⟩,
            ⟨some 8, .mv, [.t 9], none⟩] [3, 8])
         (.cond (.t 8)
           (.seq (.ops [⟨some 2, .mv, [.k (.i .u8 93)], none⟩] [2])
           (.ret))
           (.seq (.ops [⟨some 11, .bin .eql, [.t 3, .k (.i .i64 7)], none⟩,
              ⟨some 10, .mv, [.t 11], none⟩] [3, 10])
           (.cond (.t 10)
             (.seq (.ops [⟨some 2, .mv, [.k (.i .u8 88)], none⟩] [2])
             (.ret))
             (.seq (.ops [⟨some 13, .bin .eql, [.t 3, .k (.i .i64 8)], none⟩,
                ⟨some 12, .mv, [.t 13], none⟩] [3, 12])
             (.cond (.t 12)
               (.seq (.ops [⟨some 2, .mv, [.k (.i .u8 94)], none⟩] [2])
               (.ret))
               (.seq (.ops [⟨some 15, .bin .eql, [.t 3, .k (.i .i64 9)], none⟩,
                  ⟨some 14, .mv, [.t 15], none⟩] [14])
               (.cond (.t 14)
                 (.seq (.ops [⟨some 2, .mv, [.k (.i .u8 95)], none⟩] [2])
                 (.ret))
                 (.skip))))))))))))))) c57t2
def c57 : CC :=
  .seq (.ops [⟨some 2, .mv, [.k (.i .u8 0)], none⟩] [0]) c57t1
def r57 : List RV := [.t 2]
theorem e57 : compF Tryd.prog 57 [(14, [2]), (3, [2]), (5, [2]), (7, [2]), (9, [2]), (11, [2]), (13, [2]), (12, [14]), (10, [3, 12]), (8, [3, 10]), (6, [3, 8]), (4, [3, 6]), (2, [3, 4]), (1, [3]), (0, [0])] = some (c57, r57, 16) := by kernel_rfl
def c58t4 : CC :=
  .ret
def c58t3 : CC :=
  .seq (.ops [⟨some 23, .mv, [.t 3], none⟩,
     ⟨some 24, .call 30, [.t 23, .k (.s [59])], none⟩,
     ⟨some 2, .mv, [.t 24], none⟩] [2]) c58t4
def c58L0 : CC :=
  .loop (.seq (.ops [⟨some 13, .bin .lss, [.t 12, .t 11], none⟩] [3, 10, 11, 12, 13])
   (.seq (.cond (.t 13)
      (.skip)
      (.exit 0))
   (.seq (.block 1 (.seq (.ops [⟨some 14, .iadrS 1, [.t 10, .t 12], none⟩,
         ⟨some 15, .load 1 false, [.t 14], none⟩,
         ⟨some 5, .mv, [.t 15], none⟩] [3, 5, 10, 11, 12])
      (.ops [⟨some 16, .mv, [.t 3], none⟩,
        ⟨some 17, .mv, [.t 5], none⟩,
        ⟨some 18, .call 54, [.t 17, .k (.i .i64 0), .k (.i .i64 65535)], none⟩,
        ⟨some 19, .call 76, [.t 18], none⟩,
        ⟨some 20, .buildSlice 1, [.t 19], none⟩,
        ⟨some 21, .append 1 16, [.t 16, .t 20], none⟩,
        ⟨some 3, .mv, [.t 21], none⟩] [3, 10, 11, 12])))
   (.ops [⟨some 22, .bin .add, [.t 12, .k (.i .i64 1)], none⟩,
     ⟨some 12, .mv, [.t 22], none⟩] [3, 10, 11, 12]))))
def c58t2 : CC :=
  .seq (.seq (.ops [⟨some 6, .mv, [.t 0], none⟩,
      ⟨some 7, .mv, [.t 0], none⟩,
      ⟨some 8, .lenSl, [.t 7], none⟩,
      ⟨some 9, .min, [.t 8, .k (.i .i64 30)], none⟩,
      ⟨some 10, .sliceSl 1 false true, [.t 6, .t 9], none⟩,
      ⟨some 11, .lenSl, [.t 10], none⟩,
      ⟨some 12, .mv, [.k (.i .i64 0)], none⟩] [3, 10, 11, 12])
   (.block 0 (c58L0))) c58t3
def c58t1 : CC :=
  .seq (.ops [⟨some 3, .mv, [.k (.c (.slice none 0 0))], none⟩] [0, 3]) c58t2
def c58 : CC :=
  .seq (.ops [⟨some 2, .mv, [.k (.s [])], none⟩] [0]) c58t1
def r58 : List RV := [.t 2]
theorem e58 : compF Tryd.prog 58 [(7, [2]), (6, [3, 10, 11, 12]), (5, [3, 10, 11, 12]), (4, [3, 5, 10, 11, 12]), (3, [3, 10, 11, 12, 13]), (2, [3, 10, 11, 12]), (1, [0, 3]), (0, [0])] = some (c58, r58, 25) := by kernel_rfl
def c68t3 : CC :=
  .ret
def c68t2 : CC :=
  .seq (.ops [⟨some 5, .buildSlice 1, [], none⟩,
     ⟨some 6, .mv, [.t 0], none⟩,
     ⟨some 7, .append 1 8, [.t 5, .t 6], none⟩,
     ⟨some 2, .mv, [.t 7], none⟩] [2]) c68t3
def c68t1 : CC :=
  .seq (.seq (.ops [⟨some 3, .mv, [.t 0], none⟩,
      ⟨some 4, .slnil false, [.t 3, .k (.c (.slice none 0 0))], none⟩] [0, 4])
   (.cond (.t 4)
     (.seq (.ops [⟨some 2, .mv, [.k (.c (.slice none 0 0))], none⟩] [2])
     (.ret))
     (.skip))) c68t2
def c68 : CC :=
  .seq (.ops [⟨some 2, .mv, [.k (.c (.slice none 0 0))], none⟩] [0]) c68t1
def r68 : List RV := [.t 2]
theorem e68 : compF Tryd.prog 68 [(3, [2]), (2, [2]), (1, [0, 4]), (0, [0])] = some (c68, r68, 8) := by kernel_rfl
def c69t3 : CC :=
  .ret
def c69t2 : CC :=
  .seq (.ops [⟨some 5, .buildSlice 1, [], none⟩,
     ⟨some 6, .mv, [.t 0], none⟩,
     ⟨some 7, .append 1 1, [.t 5, .t 6], none⟩,
     ⟨some 2, .mv, [.t 7], none⟩] [2]) c69t3
def c69t1 : CC :=
  .seq (.seq (.ops [⟨some 3, .mv, [.t 0], none⟩,
      ⟨some 4, .slnil false, [.t 3, .k (.c (.slice none 0 0))], none⟩] [0, 4])
   (.cond (.t 4)
     (.seq (.ops [⟨some 2, .mv, [.k (.c (.slice none 0 0))], none⟩] [2])
     (.ret))
     (.skip))) c69t2
def c69 : CC :=
  .seq (.ops [⟨some 2, .mv, [.k (.c (.slice none 0 0))], none⟩] [0]) c69t1
def r69 : List RV := [.t 2]
theorem e69 : compF Tryd.prog 69 [(3, [2]), (2, [2]), (1, [0, 4]), (0, [0])] = some (c69, r69, 8) := by kernel_rfl
def c70t3 : CC :=
  .ret
def c70t2 : CC :=
  .seq (.ops [⟨some 4, .fadr 4, [.t 1], none⟩,
     ⟨some 5, .load 1 false, [.t 4], none⟩,
     ⟨some 6, .lenStr, [.t 5], none⟩,
     ⟨some 7, .bin .gtr, [.t 6, .k (.i .i64 3)], none⟩,
     ⟨some 8, .mv, [.t 7], none⟩,
     ⟨some 9, .fadr 3, [.t 1], some (8, false, true)⟩,
     ⟨some 10, .load 1 false, [.t 9], some (8, false, true)⟩,
     ⟨some 11, .lenSl, [.t 10], some (8, false, true)⟩,
     ⟨some 12, .bin .gtr, [.t 11, .k (.i .i64 30)], some (8, false, true)⟩,
     ⟨some 13, .pick, [.t 8, .k (.b true), .t 12], none⟩,
     ⟨some 14, .mv, [.t 13], none⟩,
     ⟨some 15, .fadr 5, [.t 1], some (14, false, true)⟩,
     ⟨some 16, .load 1 false, [.t 15], some (14, false, true)⟩,
     ⟨some 17, .lenSl, [.t 16], some (14, false, true)⟩,
     ⟨some 18, .bin .gtr, [.t 17, .k (.i .i64 4096)], some (14, false, true)⟩,
     ⟨some 19, .pick, [.t 14, .k (.b true), .t 18], none⟩,
     ⟨some 20, .mv, [.t 19], none⟩,
     ⟨some 21, .fadr 3, [.t 1], some (20, false, true)⟩,
     ⟨some 22, .load 1 false, [.t 21], some (20, false, true)⟩,
     ⟨some 23, .mv, [.t 3], some (20, false, true)⟩,
     ⟨some 24, .call 80, [.t 22, .t 23], some (20, false, false)⟩,
     ⟨some 25, .pick, [.t 20, .k (.b true), .t 24], none⟩,
     ⟨some 2, .mv, [.t 25], none⟩] [2]) c70t3
def c70t1 : CC :=
  .seq (.ops [⟨some 3, .mv, [.k (.fn (.func 79) [] [])], none⟩] [1, 3]) c70t2
def c70 : CC :=
  .seq (.ops [⟨some 1, .box, [.t 0], none⟩,
     ⟨some 2, .mv, [.k (.b false)], none⟩] [1]) c70t1
def r70 : List RV := [.t 2]
theorem e70 : compF Tryd.prog 70 [(2, [2]), (1, [1, 3]), (0, [1])] = some (c70, r70, 26) := by kernel_rfl
def c71t4 : CC :=
  .ret
def c71t3 : CC :=
  .seq (.ops [⟨some 51, .mv, [.t 3], none⟩,
     ⟨some 52, .bin .eql, [.t 51, .k (.i .u8 0)], none⟩,
     ⟨some 2, .mv, [.t 52], none⟩] [2]) c71t4
def c71L0 : CC :=
  .loop (.seq (.seq (.ops [⟨some 27, .mv, [.t 4], none⟩,
       ⟨some 28, .bin .leq, [.t 27, .k (.i .i64 9)], none⟩,
       ⟨some 29, .mv, [.t 28], none⟩,
       ⟨some 30, .fadr 4, [.t 1], some (29, true, true)⟩,
       ⟨some 31, .load 1 false, [.t 30], some (29, true, true)⟩,
       ⟨some 32, .bin .eql, [.t 31, .k (.s [])], some (29, true, true)⟩,
       ⟨some 33, .pick, [.t 29, .t 32, .k (.b false)], none⟩] [1, 3, 4, 33])
    (.cond (.t 33)
      (.skip)
      (.exit 1)))
   (.seq (.block 2 (.seq (.ops [⟨some 36, .mv, [.t 3], none⟩,
         ⟨some 37, .mv, [.t 4], none⟩,
         ⟨some 38, .call 57, [.t 37], none⟩,
         ⟨some 39, .bin .eql, [.t 36, .t 38], none⟩,
         ⟨some 40, .mv, [.t 39], none⟩,
         ⟨some 41, .mv, [.t 3], some (40, false, true)⟩,
         ⟨some 42, .bin .eql, [.t 41, .k (.i .u8 92)], some (40, false, true)⟩,
         ⟨some 43, .pick, [.t 40, .k (.b true), .t 42], none⟩] [1, 3, 4, 43])
      (.cond (.t 43)
        (.seq (.ops [⟨some 2, .mv, [.k (.b false)], none⟩] [2])
        (.ret))
        (.skip))))
   (.ops [⟨some 34, .mv, [.t 4], none⟩,
     ⟨some 35, .bin .add, [.t 34, .k (.i .i64 1)], none⟩,
     ⟨some 4, .mv, [.t 35], none⟩] [1, 3, 4])))
def c71t2 : CC :=
  .seq (.seq (.ops [⟨some 7, .fadr 0, [.t 1], none⟩,
      ⟨some 8, .load 1 false, [.t 7], none⟩] [1, 3, 8])
   (.block 0 (.seq (.ops [⟨some 10, .bin .eql, [.t 8, .k (.i .i64 1)], none⟩,
        ⟨some 9, .mv, [.t 10], none⟩] [1, 3, 8, 9])
     (.cond (.t 9)
       (.seq (.ops [⟨some 11, .mv, [.t 3], none⟩,
          ⟨some 12, .call 81, [.t 11], none⟩,
          ⟨some 2, .mv, [.t 12], none⟩] [2])
       (.ret))
       (.seq (.ops [⟨some 14, .bin .eql, [.t 8, .k (.i .i64 2)], none⟩,
          ⟨some 13, .mv, [.t 14], none⟩] [1, 3, 8, 13])
       (.cond (.t 13)
         (.seq (.ops [⟨some 15, .mv, [.t 3], none⟩,
            ⟨some 16, .call 74, [.t 15, .k (.i .u8 1), .k (.i .u8 31)], none⟩,
            ⟨some 17, .mv, [.t 16], none⟩,
            ⟨some 18, .mv, [.t 3], some (17, true, true)⟩,
            ⟨some 19, .bin .neq, [.t 18, .k (.i .u8 24)], some (17, true, true)⟩,
            ⟨some 20, .pick, [.t 17, .t 19, .k (.b false)], none⟩,
            ⟨some 21, .mv, [.t 20], none⟩,
            ⟨some 22, .mv, [.t 3], some (21, true, true)⟩,
            ⟨some 23, .bin .neq, [.t 22, .k (.i .u8 27)], some (21, true, true)⟩,
            ⟨some 24, .pick, [.t 21, .t 23, .k (.b false)], none⟩,
            ⟨some 2, .mv, [.t 24], none⟩] [2])
         (.ret))
         (.seq (.ops [⟨some 26, .bin .eql, [.t 8, .k (.i .i64 3)], none⟩,
            ⟨some 25, .mv, [.t 26], none⟩] [1, 3, 8, 25])
         (.cond (.t 25)
           (.seq (.seq (.ops [⟨some 4, .mv, [.k (.i .i64 4)], none⟩] [1, 3, 4])
            (.block 1 (c71L0)))
           (.seq (.ops [⟨some 44, .mv, [.t 3], none⟩,
              ⟨some 45, .call 74, [.t 44, .k (.i .u8 48), .k (.i .u8 126)], none⟩,
              ⟨some 2, .mv, [.t 45], none⟩] [2])
           (.ret)))
           (.seq (.seq (.ops [⟨some 47, .bin .eql, [.t 8, .k (.i .i64 4)], none⟩,
               ⟨some 46, .mv, [.t 47], none⟩] [3, 8, 46])
            (.cond (.t 46)
              (.skip)
              (.ops [⟨some 48, .bin .eql, [.t 8, .k (.i .i64 5)], none⟩,
                ⟨some 46, .mv, [.t 48], none⟩] [3, 46])))
           (.cond (.t 46)
             (.seq (.ops [⟨some 49, .mv, [.t 3], none⟩,
                ⟨some 50, .call 74, [.t 49, .k (.i .u8 64), .k (.i .u8 126)], none⟩,
                ⟨some 2, .mv, [.t 50], none⟩] [2])
             (.ret))
             (.skip))))))))))) c71t3
def c71t1 : CC :=
  .seq (.ops [⟨some 5, .fadr 1, [.t 1], none⟩,
     ⟨some 6, .load 1 false, [.t 5], none⟩,
     ⟨some 3, .mv, [.t 6], none⟩] [1, 3]) c71t2
def c71 : CC :=
  .seq (.ops [⟨some 1, .box, [.t 0], none⟩,
     ⟨some 2, .mv, [.k (.b false)], none⟩] [1]) c71t1
def r71 : List RV := [.t 2]
theorem e71 : compF Tryd.prog 71 [(17, [2]), (4, [2]), (6, [2]), (13, [2]), (10, [1, 3, 4]), (12, [2]), (11, [1, 3, 4, 43]), (9, [1, 3, 4, 33]), (8, [1, 3, 4]), (16, [2]), (15, [3, 46]), (14, [3, 8, 46]), (7, [1, 3, 8, 25]), (5, [1, 3, 8, 13]), (3, [1, 3, 8, 9]), (2, [1, 3, 8]), (1, [1, 3]), (0, [1])] = some (c71, r71, 53) := by kernel_rfl
def c72t2 : CC :=
  .ret
def c72t1 : CC :=
  .seq (.ops [⟨some 3, .mv, [.t 0], none⟩,
     ⟨some 4, .bin .geq, [.t 3, .k (.i .i32 32)], none⟩,
     ⟨some 5, .mv, [.t 4], none⟩,
     ⟨some 6, .mv, [.t 0], some (5, true, true)⟩,
     ⟨some 7, .bin .leq, [.t 6, .k (.i .i32 47)], some (5, true, true)⟩,
     ⟨some 8, .pick, [.t 5, .t 7, .k (.b false)], none⟩,
     ⟨some 2, .mv, [.t 8], none⟩] [2]) c72t2
def c72 : CC :=
  .seq (.ops [⟨some 2, .mv, [.k (.b false)], none⟩] [0]) c72t1
def r72 : List RV := [.t 2]
theorem e72 : compF Tryd.prog 72 [(1, [2]), (0, [0])] = some (c72, r72, 9) := by kernel_rfl
def c73t2 : CC :=
  .ret
def c73t1 : CC :=
  .seq (.ops [⟨some 3, .mv, [.t 0], none⟩,
     ⟨some 4, .call 81, [.t 3], none⟩,
     ⟨some 5, .mv, [.t 4], none⟩,
     ⟨some 6, .mv, [.t 0], some (5, false, true)⟩,
     ⟨some 7, .call 74, [.t 6, .k (.i .u8 8), .k (.i .u8 13)], some (5, false, false)⟩,
     ⟨some 8, .pick, [.t 5, .k (.b true), .t 7], none⟩,
     ⟨some 2, .mv, [.t 8], none⟩] [2]) c73t2
def c73 : CC :=
  .seq (.ops [⟨some 2, .mv, [.k (.b false)], none⟩] [0]) c73t1
def r73 : List RV := [.t 2]
theorem e73 : compF Tryd.prog 73 [(1, [2]), (0, [0])] = some (c73, r73, 9) := by kernel_rfl
def c74t2 : CC :=
  .ret
def c74t1 : CC :=
  .seq (.ops [⟨some 7, .mv, [.t 0], none⟩,
     ⟨some 8, .mv, [.t 1], none⟩,
     ⟨some 9, .bin .geq, [.t 7, .t 8], none⟩,
     ⟨some 10, .mv, [.t 9], none⟩,
     ⟨some 11, .mv, [.t 0], some (10, true, true)⟩,
     ⟨some 12, .mv, [.t 2], some (10, true, true)⟩,
     ⟨some 13, .bin .leq, [.t 11, .t 12], some (10, true, true)⟩,
     ⟨some 14, .pick, [.t 10, .t 13, .k (.b false)], none⟩,
     ⟨some 6, .mv, [.t 14], none⟩] [6]) c74t2
def c74 : CC :=
  .seq (.ops [⟨some 6, .mv, [.k (.b false)], none⟩] [0, 1, 2]) c74t1
def r74 : List RV := [.t 6]
theorem e74 : compF Tryd.prog 74 [(1, [6]), (0, [0, 1, 2])] = some (c74, r74, 15) := by kernel_rfl
def c75t2 : CC :=
  .ret
def c75t1 : CC :=
  .seq (.ops [⟨some 3, .fadr 2, [.t 1], none⟩,
     ⟨some 4, .load 1 false, [.t 3], none⟩,
     ⟨some 5, .bin .eql, [.t 4, .k (.i .u8 0)], none⟩,
     ⟨some 6, .mv, [.t 5], none⟩,
     ⟨some 7, .fadr 3, [.t 1], some (6, true, true)⟩,
     ⟨some 8, .load 1 false, [.t 7], some (6, true, true)⟩,
     ⟨some 9, .lenSl, [.t 8], some (6, true, true)⟩,
     ⟨some 10, .bin .eql, [.t 9, .k (.i .i64 0)], some (6, true, true)⟩,
     ⟨some 11, .pick, [.t 6, .t 10, .k (.b false)], none⟩,
     ⟨some 12, .mv, [.t 11], none⟩,
     ⟨some 13, .fadr 4, [.t 1], some (12, true, true)⟩,
     ⟨some 14, .load 1 false, [.t 13], some (12, true, true)⟩,
     ⟨some 15, .bin .eql, [.t 14, .k (.s [])], some (12, true, true)⟩,
     ⟨some 16, .pick, [.t 12, .t 15, .k (.b false)], none⟩,
     ⟨some 17, .mv, [.t 16], none⟩,
     ⟨some 18, .fadr 5, [.t 1], some (17, true, true)⟩,
     ⟨some 19, .load 1 false, [.t 18], some (17, true, true)⟩,
     ⟨some 20, .lenSl, [.t 19], some (17, true, true)⟩,
     ⟨some 21, .bin .eql, [.t 20, .k (.i .i64 0)], some (17, true, true)⟩,
     ⟨some 22, .pick, [.t 17, .t 21, .k (.b false)], none⟩,
     ⟨some 2, .mv, [.t 22], none⟩] [2]) c75t2
def c75 : CC :=
  .seq (.ops [⟨some 1, .box, [.t 0], none⟩,
     ⟨some 2, .mv, [.k (.b false)], none⟩] [1]) c75t1
def r75 : List RV := [.t 2]
theorem e75 : compF Tryd.prog 75 [(1, [2]), (0, [1])] = some (c75, r75, 23) := by kernel_rfl
def c76t2 : CC :=
  .ret
def c76t1 : CC :=
  .seq (.ops [⟨some 3, .mv, [.t 0], none⟩,
     ⟨some 4, .call 82, [.t 3], none⟩,
     ⟨some 2, .mv, [.t 4], none⟩] [2]) c76t2
def c76 : CC :=
  .seq (.ops [⟨some 2, .mv, [.k (.s [])], none⟩] [0]) c76t1
def r76 : List RV := [.t 2]
theorem e76 : compF Tryd.prog 76 [(1, [2]), (0, [0])] = some (c76, r76, 5) := by kernel_rfl
def c79t2 : CC :=
  .ret
def c79t1 : CC :=
  .seq (.ops [⟨some 3, .mv, [.t 0], none⟩,
     ⟨some 4, .mv, [.t 0], none⟩,
     ⟨some 5, .call 54, [.t 4, .k (.i .i64 0), .k (.i .i64 65535)], none⟩,
     ⟨some 6, .bin .neq, [.t 3, .t 5], none⟩,
     ⟨some 2, .mv, [.t 6], none⟩] [2]) c79t2
def c79 : CC :=
  .seq (.ops [⟨some 2, .mv, [.k (.b false)], none⟩] [0]) c79t1
def r79 : List RV := [.t 2]
theorem e79 : compF Tryd.prog 79 [(1, [2]), (0, [0])] = some (c79, r79, 7) := by kernel_rfl
def c80t2 : CC :=
  .ret
def c80t1 : CC :=
  .seq (.ops [⟨some 5, .mv, [.t 0], none⟩,
     ⟨some 6, .mv, [.t 1], none⟩,
     ⟨some 7, .call 83, [.t 5, .t 6], none⟩,
     ⟨some 8, .bin .geq, [.t 7, .k (.i .i64 0)], none⟩,
     ⟨some 4, .mv, [.t 8], none⟩] [4]) c80t2
def c80 : CC :=
  .seq (.ops [⟨some 4, .mv, [.k (.b false)], none⟩] [0, 1]) c80t1
def r80 : List RV := [.t 4]
theorem e80 : compF Tryd.prog 80 [(1, [4]), (0, [0, 1])] = some (c80, r80, 9) := by kernel_rfl
def c81t2 : CC :=
  .ret
def c81t1 : CC :=
  .seq (.ops [⟨some 3, .mv, [.t 0], none⟩,
     ⟨some 4, .call 74, [.t 3, .k (.i .u8 32), .k (.i .u8 126)], none⟩,
     ⟨some 5, .mv, [.t 4], none⟩,
     ⟨some 6, .mv, [.t 0], some (5, false, true)⟩,
     ⟨some 7, .bin .geq, [.t 6, .k (.i .u8 160)], some (5, false, true)⟩,
     ⟨some 8, .pick, [.t 5, .k (.b true), .t 7], none⟩,
     ⟨some 2, .mv, [.t 8], none⟩] [2]) c81t2
def c81 : CC :=
  .seq (.ops [⟨some 2, .mv, [.k (.b false)], none⟩] [0]) c81t1
def r81 : List RV := [.t 2]
theorem e81 : compF Tryd.prog 81 [(1, [2]), (0, [0])] = some (c81, r81, 9) := by kernel_rfl
def c82t2 : CC :=
  .ret
def c82t1 : CC :=
  .seq (.ops [⟨some 3, .mv, [.t 0], none⟩,
     ⟨some 4, .call 84, [.t 3, .k (.i .i64 10)], none⟩,
     ⟨some 2, .mv, [.t 4], none⟩] [2]) c82t2
def c82 : CC :=
  .seq (.ops [⟨some 2, .mv, [.k (.s [])], none⟩] [0]) c82t1
def r82 : List RV := [.t 2]
theorem e82 : compF Tryd.prog 82 [(1, [2]), (0, [0])] = some (c82, r82, 5) := by kernel_rfl
def c83t3 : CC :=
  .ret
def c83t2 : CC :=
  .seq (.ops [⟨some 4, .mv, [.k (.i .i64 (-1))], none⟩] [4]) c83t3
def c83L0 : CC :=
  .loop (.seq (.ops [⟨some 9, .bin .lss, [.t 8, .t 7], none⟩] [0, 1, 7, 8, 9])
   (.seq (.cond (.t 9)
      (.skip)
      (.exit 0))
   (.seq (.block 1 (.seq (.ops [⟨some 10, .mv, [.t 8], none⟩,
         ⟨some 5, .mv, [.t 10], none⟩] [0, 1, 5, 7, 8])
      (.seq (.ops [⟨some 11, .mv, [.t 1], none⟩,
         ⟨some 12, .mv, [.t 0], none⟩,
         ⟨some 13, .mv, [.t 5], none⟩,
         ⟨some 14, .iadrS 1, [.t 12, .t 13], none⟩,
         ⟨some 15, .load 1 false, [.t 14], none⟩,
         ⟨some 16, .callv, [.t 11, .t 15], none⟩] [0, 1, 5, 7, 8, 16])
      (.cond (.t 16)
        (.seq (.ops [⟨some 17, .mv, [.t 5], none⟩,
           ⟨some 4, .mv, [.t 17], none⟩] [4])
        (.ret))
        (.skip)))))
   (.ops [⟨some 18, .bin .add, [.t 8, .k (.i .i64 1)], none⟩,
     ⟨some 8, .mv, [.t 18], none⟩] [0, 1, 7, 8]))))
def c83t1 : CC :=
  .seq (.seq (.ops [⟨some 6, .mv, [.t 0], none⟩,
      ⟨some 7, .lenSl, [.t 6], none⟩,
      ⟨some 8, .mv, [.k (.i .i64 0)], none⟩] [0, 1, 7, 8])
   (.block 0 (c83L0))) c83t2
def c83 : CC :=
  .seq (.ops [⟨some 4, .mv, [.k (.i .i64 0)], none⟩] [0, 1]) c83t1
def r83 : List RV := [.t 4]
theorem e83 : compF Tryd.prog 83 [(7, [4]), (6, [0, 1, 7, 8]), (5, [4]), (4, [0, 1, 5, 7, 8, 16]), (3, [0, 1, 5, 7, 8]), (2, [0, 1, 7, 8, 9]), (1, [0, 1, 7, 8]), (0, [0, 1])] = some (c83, r83, 19) := by kernel_rfl
def c84t4 : CC :=
  .ret
def c84t3 : CC :=
  .seq (.ops [⟨some 53, .mv, [.t 9], none⟩,
     ⟨some 4, .mv, [.t 53], none⟩] [4]) c84t4
def c84t2 : CC :=
  .seq (.ops [⟨some 45, .mv, [.t 0], none⟩,
     ⟨some 46, .conv .u64, [.t 45], none⟩,
     ⟨some 47, .mv, [.t 1], none⟩,
     ⟨some 48, .mv, [.t 0], none⟩,
     ⟨some 49, .bin .lss, [.t 48, .k (.i .i64 0)], none⟩,
     ⟨some 50, .call 88, [.k (.c (.slice none 0 0)), .t 46, .t 47, .t 49, .k (.b false)], none⟩,
     ⟨some 44, .mv, [.t 50], none⟩,
     ⟨some 51, .extract 0, [.t 44], none⟩,
     ⟨some 52, .extract 1, [.t 44], none⟩,
     ⟨some 8, .mv, [.t 51], none⟩,
     ⟨some 9, .mv, [.t 52], none⟩] [9]) c84t3
def c84t1 : CC :=
  .seq (.seq (.ops [⟨some 10, .mv, [.t 1], none⟩,
      ⟨some 11, .bin .eql, [.t 10, .k (.i .i64 10)], none⟩] [0, 1, 11])
   (.cond (.t 11)
     (.seq (.seq (.ops [⟨some 12, .mv, [.t 0], none⟩,
         ⟨some 13, .bin .leq, [.k (.i .i64 0), .t 12], none⟩,
         ⟨some 14, .mv, [.t 13], none⟩,
         ⟨some 15, .mv, [.t 0], some (14, true, true)⟩,
         ⟨some 16, .bin .lss, [.t 15, .k (.i .i64 100)], some (14, true, true)⟩,
         ⟨some 17, .pick, [.t 14, .t 16, .k (.b false)], none⟩] [0, 17])
      (.cond (.t 17)
        (.seq (.ops [⟨some 18, .mv, [.t 0], none⟩,
           ⟨some 19, .call 85, [.t 18], none⟩,
           ⟨some 4, .mv, [.t 19], none⟩] [4])
        (.ret))
        (.skip)))
     (.seq (.ops [⟨some 5, .alloc (.agg [.i .u8 0, .i .u8 0, .i .u8 0, .i .u8 0, .i .u8 0, .i .u8 0, .i .u8 0, .i .u8 0, .i .u8 0, .i .u8 0, .i .u8 0, .i .u8 0, .i .u8 0, .i .u8 0, .i .u8 0, .i .u8 0, .i .u8 0, .i .u8 0, .i .u8 0, .i .u8 0, .i .u8 0, .i .u8 0, .i .u8 0, .i .u8 0]), [], none⟩] [0, 5])
     (.seq (.ops [⟨some 20, .mv, [.t 0], none⟩,
        ⟨some 21, .conv .u64, [.t 20], none⟩,
        ⟨some 6, .mv, [.t 21], none⟩] [0, 5, 6])
     (.seq (.seq (.ops [⟨some 22, .mv, [.t 0], none⟩,
         ⟨some 23, .bin .lss, [.t 22, .k (.i .i64 0)], none⟩] [0, 5, 6, 23])
      (.cond (.t 23)
        (.ops [⟨some 24, .mv, [.t 6], none⟩,
          ⟨some 25, .neg, [.t 24], none⟩,
          ⟨some 6, .mv, [.t 25], none⟩] [0, 5, 6])
        (.skip)))
     (.seq (.ops [⟨some 26, .mv, [.t 6], none⟩,
        ⟨some 27, .call 86, [.t 26], none⟩,
        ⟨some 7, .mv, [.t 27], none⟩] [0, 5, 6, 7])
     (.seq (.ops [⟨some 28, .mv, [.t 7], none⟩,
        ⟨some 29, .bin .add, [.k (.i .i64 1), .t 28], none⟩,
        ⟨some 30, .never, [], none⟩,
        ⟨some 31, .mv, [.t 6], none⟩,
        ⟨some 32, .call 87, [.t 30, .t 31], none⟩] [0, 5, 7])
     (.seq (.seq (.ops [⟨some 33, .mv, [.t 0], none⟩,
         ⟨some 34, .bin .lss, [.t 33, .k (.i .i64 0)], none⟩] [5, 7, 34])
      (.cond (.t 34)
        (.seq (.ops [⟨some 35, .iadrA 24 1, [.t 5, .k (.i .i64 0)], none⟩,
           ⟨none, .store 1, [.t 35, .k (.i .u8 45)], none⟩] [5, 7])
        (.seq (.ops [⟨some 36, .mv, [.t 7], none⟩,
           ⟨some 37, .bin .add, [.k (.i .i64 1), .t 36], none⟩,
           ⟨some 38, .never, [], none⟩,
           ⟨some 39, .strOf, [.t 38], none⟩,
           ⟨some 4, .mv, [.t 39], none⟩] [4])
        (.ret)))
        (.skip)))
     (.seq (.ops [⟨some 40, .mv, [.t 7], none⟩,
        ⟨some 41, .bin .add, [.k (.i .i64 1), .t 40], none⟩,
        ⟨some 42, .never, [], none⟩,
        ⟨some 43, .strOf, [.t 42], none⟩,
        ⟨some 4, .mv, [.t 43], none⟩] [4])
     (.ret)))))))))
     (.skip))) c84t2
def c84 : CC :=
  .seq (.ops [⟨some 4, .mv, [.k (.s [])], none⟩] [0, 1]) c84t1
def r84 : List RV := [.t 4]
theorem e84 : compF Tryd.prog 84 [(15, [4]), (14, [9]), (13, [4]), (12, [4]), (11, [5, 7]), (10, [5, 7, 34]), (9, [0, 5, 7]), (8, [0, 5, 6, 7]), (7, [0, 5, 6]), (6, [0, 5, 6, 23]), (5, [0, 5, 6]), (4, [0, 5]), (3, [4]), (2, [0, 17]), (1, [0, 1, 11]), (0, [0, 1])] = some (c84, r84, 54) := by kernel_rfl
def c85t3 : CC :=
  .ret
def c85t2 : CC :=
  .seq (.ops [⟨some 9, .mv, [.t 0], none⟩,
     ⟨some 10, .bin .mul, [.t 9, .k (.i .i64 2)], none⟩,
     ⟨some 11, .mv, [.t 0], none⟩,
     ⟨some 12, .bin .mul, [.t 11, .k (.i .i64 2)], none⟩,
     ⟨some 13, .bin .add, [.t 12, .k (.i .i64 2)], none⟩,
     ⟨some 14, .sliceStr true true, [.k (.s [48, 48, 48, 49, 48, 50, 48, 51, 48, 52, 48, 53, 48, 54, 48, 55, 48, 56, 48, 57, 49, 48, 49, 49, 49, 50, 49, 51, 49, 52, 49, 53, 49, 54, 49, 55, 49, 56, 49, 57, 50, 48, 50, 49, 50, 50, 50, 51, 50, 52, 50, 53, 50, 54, 50, 55, 50, 56, 50, 57, 51, 48, 51, 49, 51, 50, 51, 51, 51, 52, 51, 53, 51, 54, 51, 55, 51, 56, 51, 57, 52, 48, 52, 49, 52, 50, 52, 51, 52, 52, 52, 53, 52, 54, 52, 55, 52, 56, 52, 57, 53, 48, 53, 49, 53, 50, 53, 51, 53, 52, 53, 53, 53, 54, 53, 55, 53, 56, 53, 57, 54, 48, 54, 49, 54, 50, 54, 51, 54, 52, 54, 53, 54, 54, 54, 55, 54, 56, 54, 57, 55, 48, 55, 49, 55, 50, 55, 51, 55, 52, 55, 53, 55, 54, 55, 55, 55, 56, 55, 57, 56, 48, 56, 49, 56, 50, 56, 51, 56, 52, 56, 53, 56, 54, 56, 55, 56, 56, 56, 57, 57, 48, 57, 49, 57, 50, 57, 51, 57, 52, 57, 53, 57, 54, 57, 55, 57, 56, 57, 57]), .t 10, .t 13], none⟩,
     ⟨some 2, .mv, [.t 14], none⟩] [2]) c85t3
def c85t1 : CC :=
  .seq (.seq (.ops [⟨some 3, .mv, [.t 0], none⟩,
      ⟨some 4, .bin .lss, [.t 3, .k (.i .i64 10)], none⟩] [0, 4])
   (.cond (.t 4)
     (.seq (.ops [⟨some 5, .mv, [.t 0], none⟩,
        ⟨some 6, .mv, [.t 0], none⟩,
        ⟨some 7, .bin .add, [.t 6, .k (.i .i64 1)], none⟩,
        ⟨some 8, .sliceStr true true, [.k (.s [48, 49, 50, 51, 52, 53, 54, 55, 56, 57, 97, 98, 99, 100, 101, 102, 103, 104, 105, 106, 107, 108, 109, 110, 111, 112, 113, 114, 115, 116, 117, 118, 119, 120, 121, 122]), .t 5, .t 7], none⟩,
        ⟨some 2, .mv, [.t 8], none⟩] [2])
     (.ret))
     (.skip))) c85t2
def c85 : CC :=
  .seq (.ops [⟨some 2, .mv, [.k (.s [])], none⟩] [0]) c85t1
def r85 : List RV := [.t 2]
theorem e85 : compF Tryd.prog 85 [(3, [2]), (2, [2]), (1, [0, 4]), (0, [0])] = some (c85, r85, 15) := by kernel_rfl
end Go.AM.K
