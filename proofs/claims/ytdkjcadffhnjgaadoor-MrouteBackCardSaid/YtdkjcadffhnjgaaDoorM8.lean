/- mroute.Take: from read on; with what Right and sized say of its route. -/
import Derived.Test.YtdkjcadffhnjgaaDoorM7
import Derived.Test.YtdkjcadffhnjgaaDoorM4
namespace Go.Proofs.YtdkjcadffhnjgaaDoor
open Go Go.V
set_option maxRecDepth 10000
open D in
def vb36_9 : VC :=
  .seq (.region [m 56 (.mov (t 8)), m 57 (.mov (t 10)), m 58 (.mov (t 11)), m 59 (.call false 74 [(t 56), (t 57), (t 58)]), m 55 (.mov (t 59)), m 60 (.extract 0 (t 55)), m 61 (.extract 1 (t 55)), m 13 (.alloc 1 [(i 0), (b 0), (b 0), (b 0), (b 0), (b 0), (b 0), (b 0), (b 0), (i 0), (i 0), (b 0), (b 0), (b 0), (b 0), (b 0), (b 0), (b 0), (b 0), (b 0), (b 0), (b 0), (b 0), (b 0), (b 0), (b 0), (b 0), (i 0), (b 0), (b 0), (b 0), (b 0), (b 0), (b 0), (b 0), (b 0), (b 0), (b 0), (b 0), (b 0), (b 0), (b 0), (b 0), (b 0), (i 0), (b 0), (b 0), (b 0), (b 0), (b 0), (b 0), (b 0), (b 0), (b 0), (b 0), (b 0), (b 0), (b 0), (b 0), (b 0), (b 0), (.str [])]), e (.store 62 (t 13) (t 60)), m 14 (.mov (t 61))]) <|
  .seq (.seq (.region [m 62 (.mov (t 14)), m 63 (.un .not (t 62)), m 64 (.mov (t 63)), g 65 64 false (.load (some 62) (t 13)), g 66 64 false (.call false 32 [(t 65)]), g 67 64 false (.un .not (t 66)), m 68 (.pick (t 64) (.c (.bool true)) (t 67)), m 69 (.mov (t 68)), g 70 69 false (.load (some 62) (t 13)), g 71 69 false (.mov (t 1)), g 72 69 false (.call false 75 [(t 70), (t 71)]), g 73 69 false (.un .not (t 72)), m 74 (.pick (t 69) (.c (.bool true)) (t 73))]) <|
  .cond (t 74) (.seq (.region [m 75 (.build [(i 0), (b 0), (b 0), (b 0), (b 0), (b 0), (b 0), (b 0), (b 0), (i 0), (i 0), (b 0), (b 0), (b 0), (b 0), (b 0), (b 0), (b 0), (b 0), (b 0), (b 0), (b 0), (b 0), (b 0), (b 0), (b 0), (b 0), (i 0), (b 0), (b 0), (b 0), (b 0), (b 0), (b 0), (b 0), (b 0), (b 0), (b 0), (b 0), (b 0), (b 0), (b 0), (b 0), (b 0), (i 0), (b 0), (b 0), (b 0), (b 0), (b 0), (b 0), (b 0), (b 0), (b 0), (b 0), (b 0), (b 0), (b 0), (b 0), (b 0), (b 0), (.str [])] []), e (.store 62 (t 4) (t 75)), m 5 (.mov (.c (i 0))), m 6 (.mov (.c (i 4)))]) <|
  .ret) (.skip)) <|
  .seq (.region [m 76 (.load (some 62) (t 13)), m 77 (.mov (t 9)), m 78 (.bin .add .num (.c (i 2)) (t 77)), e (.store 62 (t 4) (t 76)), m 5 (.mov (t 78)), m 6 (.mov (.c (i 0)))]) <|
  .ret
open D in
theorem vb36_9_eq : vb36_9 =
  (.seq (.region [m 56 (.mov (t 8)), m 57 (.mov (t 10)), m 58 (.mov (t 11)), m 59 (.call false 74 [(t 56), (t 57), (t 58)]), m 55 (.mov (t 59)), m 60 (.extract 0 (t 55)), m 61 (.extract 1 (t 55)), m 13 (.alloc 1 [(i 0), (b 0), (b 0), (b 0), (b 0), (b 0), (b 0), (b 0), (b 0), (i 0), (i 0), (b 0), (b 0), (b 0), (b 0), (b 0), (b 0), (b 0), (b 0), (b 0), (b 0), (b 0), (b 0), (b 0), (b 0), (b 0), (b 0), (i 0), (b 0), (b 0), (b 0), (b 0), (b 0), (b 0), (b 0), (b 0), (b 0), (b 0), (b 0), (b 0), (b 0), (b 0), (b 0), (b 0), (i 0), (b 0), (b 0), (b 0), (b 0), (b 0), (b 0), (b 0), (b 0), (b 0), (b 0), (b 0), (b 0), (b 0), (b 0), (b 0), (b 0), (.str [])]), e (.store 62 (t 13) (t 60)), m 14 (.mov (t 61))]) <|
  .seq (.seq (.region [m 62 (.mov (t 14)), m 63 (.un .not (t 62)), m 64 (.mov (t 63)), g 65 64 false (.load (some 62) (t 13)), g 66 64 false (.call false 32 [(t 65)]), g 67 64 false (.un .not (t 66)), m 68 (.pick (t 64) (.c (.bool true)) (t 67)), m 69 (.mov (t 68)), g 70 69 false (.load (some 62) (t 13)), g 71 69 false (.mov (t 1)), g 72 69 false (.call false 75 [(t 70), (t 71)]), g 73 69 false (.un .not (t 72)), m 74 (.pick (t 69) (.c (.bool true)) (t 73))]) <|
  .cond (t 74) (.seq (.region [m 75 (.build [(i 0), (b 0), (b 0), (b 0), (b 0), (b 0), (b 0), (b 0), (b 0), (i 0), (i 0), (b 0), (b 0), (b 0), (b 0), (b 0), (b 0), (b 0), (b 0), (b 0), (b 0), (b 0), (b 0), (b 0), (b 0), (b 0), (b 0), (i 0), (b 0), (b 0), (b 0), (b 0), (b 0), (b 0), (b 0), (b 0), (b 0), (b 0), (b 0), (b 0), (b 0), (b 0), (b 0), (b 0), (i 0), (b 0), (b 0), (b 0), (b 0), (b 0), (b 0), (b 0), (b 0), (b 0), (b 0), (b 0), (b 0), (b 0), (b 0), (b 0), (b 0), (.str [])] []), e (.store 62 (t 4) (t 75)), m 5 (.mov (.c (i 0))), m 6 (.mov (.c (i 4)))]) <|
  .ret) (.skip)) <|
  .seq (.region [m 76 (.load (some 62) (t 13)), m 77 (.mov (t 9)), m 78 (.bin .add .num (.c (i 2)) (t 77)), e (.store 62 (t 4) (t 76)), m 5 (.mov (t 78)), m 6 (.mov (.c (i 0)))]) <|
  .ret) := rfl
open D in
def vb36_2 : VC :=
  .seq (.region [m 22 (.mov (t 0)), m 23 (.call false 43 [(t 22)]), m 7 (.mov (t 23))]) <|
  .seq (.region [m 24 (.mov (t 7)), m 25 (.call false 44 [(t 24), (.c (i 1))]), m 8 (.mov (t 25))]) <|
  .seq (.region [m 26 (.mov (t 7)), m 27 (.call false 44 [(t 26), (.c (i 1))]), m 9 (.mov (t 27))]) <|
  .seq (.region [m 28 (.mov (t 7)), m 29 (.mov (t 9)), m 30 (.call false 45 [(t 28), (t 29)]), m 10 (.mov (t 30))]) <|
  .seq (.seq (.region [m 31 (.mov (t 7)), m 32 (.nilCheck (t 31)), m 33 (.field 0 (t 32)), m 34 (.call false 46 [(t 33)])]) <|
  .cond (t 34) (.seq (.region [m 35 (.build [(i 0), (b 0), (b 0), (b 0), (b 0), (b 0), (b 0), (b 0), (b 0), (i 0), (i 0), (b 0), (b 0), (b 0), (b 0), (b 0), (b 0), (b 0), (b 0), (b 0), (b 0), (b 0), (b 0), (b 0), (b 0), (b 0), (b 0), (i 0), (b 0), (b 0), (b 0), (b 0), (b 0), (b 0), (b 0), (b 0), (b 0), (b 0), (b 0), (b 0), (b 0), (b 0), (b 0), (b 0), (i 0), (b 0), (b 0), (b 0), (b 0), (b 0), (b 0), (b 0), (b 0), (b 0), (b 0), (b 0), (b 0), (b 0), (b 0), (b 0), (b 0), (.str [])] []), e (.store 62 (t 4) (t 35)), m 5 (.mov (.c (i 0))), m 6 (.mov (.c (i 3)))]) <|
  .ret) (.skip)) <|
  .seq (.region [m 11 (.mov (.c (.str [])))]) <|
  .seq (.seq (.region [m 36 (.mov (t 8)), m 37 (.bin .eql .num (t 36) (.c (i 4)))]) <|
  .cond (t 37) (.seq (.region [m 38 (.mov (t 10)), m 39 (.call false 48 [(t 38), (.c (i 2))]), m 12 (.mov (t 39))]) <|
  .seq (.seq (.region [m 40 (.mov (t 10)), m 41 (.nilCheck (t 40)), m 42 (.field 0 (t 41)), m 43 (.call false 46 [(t 42)])]) <|
  .cond (t 43) (.seq (.region [m 44 (.build [(i 0), (b 0), (b 0), (b 0), (b 0), (b 0), (b 0), (b 0), (b 0), (i 0), (i 0), (b 0), (b 0), (b 0), (b 0), (b 0), (b 0), (b 0), (b 0), (b 0), (b 0), (b 0), (b 0), (b 0), (b 0), (b 0), (b 0), (i 0), (b 0), (b 0), (b 0), (b 0), (b 0), (b 0), (b 0), (b 0), (b 0), (b 0), (b 0), (b 0), (b 0), (b 0), (b 0), (b 0), (i 0), (b 0), (b 0), (b 0), (b 0), (b 0), (b 0), (b 0), (b 0), (b 0), (b 0), (b 0), (b 0), (b 0), (b 0), (b 0), (b 0), (.str [])] []), e (.store 62 (t 4) (t 44)), m 5 (.mov (.c (i 0))), m 6 (.mov (.c (i 4)))]) <|
  .ret) (.skip)) <|
  .dreg [(m 45 (.mov (t 12)), []), (m 46 (.b2s (t 45)), [0]), (m 47 (.mov (t 10)), []), (m 48 (.mov (t 12)), []), (m 49 (.index 1 (t 48) (.c (i 1))), [3]), (m 50 (.load none (t 49)), [4]), (m 51 (.convInt .i64 (t 50)), [5]), (m 52 (.call false 48 [(t 47), (t 51)]), [2, 6]), (m 53 (.b2s (t 52)), [7]), (m 54 (.bin .add .num (t 46) (t 53)), [1, 8]), (m 11 (.mov (t 54)), [9, 7, 0, 1, 2, 3, 4, 5, 6, 7, 8, 9])] [(2, 0), (2, 1), (2, 2), (2, 3), (1, 4), (1, 5), (2, 6), (0, 7), (1, 8), (2, 9), (2, 10)] [0, 1, 0, 0, 8, 24, 56, 124, 252, 511, 1023]) (.skip)) <|
  vb36_9
open D in
theorem vb36_2_eq : vb36_2 =
  (.seq (.region [m 22 (.mov (t 0)), m 23 (.call false 43 [(t 22)]), m 7 (.mov (t 23))]) <|
  .seq (.region [m 24 (.mov (t 7)), m 25 (.call false 44 [(t 24), (.c (i 1))]), m 8 (.mov (t 25))]) <|
  .seq (.region [m 26 (.mov (t 7)), m 27 (.call false 44 [(t 26), (.c (i 1))]), m 9 (.mov (t 27))]) <|
  .seq (.region [m 28 (.mov (t 7)), m 29 (.mov (t 9)), m 30 (.call false 45 [(t 28), (t 29)]), m 10 (.mov (t 30))]) <|
  .seq (.seq (.region [m 31 (.mov (t 7)), m 32 (.nilCheck (t 31)), m 33 (.field 0 (t 32)), m 34 (.call false 46 [(t 33)])]) <|
  .cond (t 34) (.seq (.region [m 35 (.build [(i 0), (b 0), (b 0), (b 0), (b 0), (b 0), (b 0), (b 0), (b 0), (i 0), (i 0), (b 0), (b 0), (b 0), (b 0), (b 0), (b 0), (b 0), (b 0), (b 0), (b 0), (b 0), (b 0), (b 0), (b 0), (b 0), (b 0), (i 0), (b 0), (b 0), (b 0), (b 0), (b 0), (b 0), (b 0), (b 0), (b 0), (b 0), (b 0), (b 0), (b 0), (b 0), (b 0), (b 0), (i 0), (b 0), (b 0), (b 0), (b 0), (b 0), (b 0), (b 0), (b 0), (b 0), (b 0), (b 0), (b 0), (b 0), (b 0), (b 0), (b 0), (.str [])] []), e (.store 62 (t 4) (t 35)), m 5 (.mov (.c (i 0))), m 6 (.mov (.c (i 3)))]) <|
  .ret) (.skip)) <|
  .seq (.region [m 11 (.mov (.c (.str [])))]) <|
  .seq (.seq (.region [m 36 (.mov (t 8)), m 37 (.bin .eql .num (t 36) (.c (i 4)))]) <|
  .cond (t 37) (.seq (.region [m 38 (.mov (t 10)), m 39 (.call false 48 [(t 38), (.c (i 2))]), m 12 (.mov (t 39))]) <|
  .seq (.seq (.region [m 40 (.mov (t 10)), m 41 (.nilCheck (t 40)), m 42 (.field 0 (t 41)), m 43 (.call false 46 [(t 42)])]) <|
  .cond (t 43) (.seq (.region [m 44 (.build [(i 0), (b 0), (b 0), (b 0), (b 0), (b 0), (b 0), (b 0), (b 0), (i 0), (i 0), (b 0), (b 0), (b 0), (b 0), (b 0), (b 0), (b 0), (b 0), (b 0), (b 0), (b 0), (b 0), (b 0), (b 0), (b 0), (b 0), (i 0), (b 0), (b 0), (b 0), (b 0), (b 0), (b 0), (b 0), (b 0), (b 0), (b 0), (b 0), (b 0), (b 0), (b 0), (b 0), (b 0), (i 0), (b 0), (b 0), (b 0), (b 0), (b 0), (b 0), (b 0), (b 0), (b 0), (b 0), (b 0), (b 0), (b 0), (b 0), (b 0), (b 0), (.str [])] []), e (.store 62 (t 4) (t 44)), m 5 (.mov (.c (i 0))), m 6 (.mov (.c (i 4)))]) <|
  .ret) (.skip)) <|
  .dreg [(m 45 (.mov (t 12)), []), (m 46 (.b2s (t 45)), [0]), (m 47 (.mov (t 10)), []), (m 48 (.mov (t 12)), []), (m 49 (.index 1 (t 48) (.c (i 1))), [3]), (m 50 (.load none (t 49)), [4]), (m 51 (.convInt .i64 (t 50)), [5]), (m 52 (.call false 48 [(t 47), (t 51)]), [2, 6]), (m 53 (.b2s (t 52)), [7]), (m 54 (.bin .add .num (t 46) (t 53)), [1, 8]), (m 11 (.mov (t 54)), [9, 7, 0, 1, 2, 3, 4, 5, 6, 7, 8, 9])] [(2, 0), (2, 1), (2, 2), (2, 3), (1, 4), (1, 5), (2, 6), (0, 7), (1, 8), (2, 9), (2, 10)] [0, 1, 0, 0, 8, 24, 56, 124, 252, 511, 1023]) (.skip)) <|
  vb36_9) := rfl
open D in
theorem vb36_eq : vb36 =
  (.seq (.region [m 4 (.alloc 0 [(i 0), (b 0), (b 0), (b 0), (b 0), (b 0), (b 0), (b 0), (b 0), (i 0), (i 0), (b 0), (b 0), (b 0), (b 0), (b 0), (b 0), (b 0), (b 0), (b 0), (b 0), (b 0), (b 0), (b 0), (b 0), (b 0), (b 0), (i 0), (b 0), (b 0), (b 0), (b 0), (b 0), (b 0), (b 0), (b 0), (b 0), (b 0), (b 0), (b 0), (b 0), (b 0), (b 0), (b 0), (i 0), (b 0), (b 0), (b 0), (b 0), (b 0), (b 0), (b 0), (b 0), (b 0), (b 0), (b 0), (b 0), (b 0), (b 0), (b 0), (b 0), (.str [])]), m 5 (.mov (.c (i 0))), m 6 (.mov (.c (i 0)))]) <|
  .seq (.seq (.region [m 15 (.mov (t 1)), m 16 (.bin .neq .num (t 15) (.c (i 4))), m 17 (.mov (t 16)), g 18 17 true (.mov (t 1)), g 19 17 true (.bin .neq .num (t 18) (.c (i 16))), m 20 (.pick (t 17) (t 19) (.c (.bool false)))]) <|
  .cond (t 20) (.seq (.region [m 21 (.build [(i 0), (b 0), (b 0), (b 0), (b 0), (b 0), (b 0), (b 0), (b 0), (i 0), (i 0), (b 0), (b 0), (b 0), (b 0), (b 0), (b 0), (b 0), (b 0), (b 0), (b 0), (b 0), (b 0), (b 0), (b 0), (b 0), (b 0), (i 0), (b 0), (b 0), (b 0), (b 0), (b 0), (b 0), (b 0), (b 0), (b 0), (b 0), (b 0), (b 0), (b 0), (b 0), (b 0), (b 0), (i 0), (b 0), (b 0), (b 0), (b 0), (b 0), (b 0), (b 0), (b 0), (b 0), (b 0), (b 0), (b 0), (b 0), (b 0), (b 0), (b 0), (.str [])] []), e (.store 62 (t 4) (t 21)), m 5 (.mov (.c (i 0))), m 6 (.mov (.c (i 1)))]) <|
  .ret) (.skip)) <|
  vb36_2) := rfl

attribute [local irreducible] vBuild vCallV
theorem mz_zz : splice [.int .i64 0, .int .u8 0, .int .u8 0, .int .u8 0, .int .u8 0, .int .u8 0, .int .u8 0, .int .u8 0, .int .u8 0, .int .i64 0, .int .i64 0, .int .u8 0, .int .u8 0, .int .u8 0, .int .u8 0, .int .u8 0, .int .u8 0, .int .u8 0, .int .u8 0, .int .u8 0, .int .u8 0, .int .u8 0, .int .u8 0, .int .u8 0, .int .u8 0, .int .u8 0, .int .u8 0, .int .i64 0, .int .u8 0, .int .u8 0, .int .u8 0, .int .u8 0, .int .u8 0, .int .u8 0, .int .u8 0, .int .u8 0, .int .u8 0, .int .u8 0, .int .u8 0, .int .u8 0, .int .u8 0, .int .u8 0, .int .u8 0, .int .u8 0, .int .i64 0, .int .u8 0, .int .u8 0, .int .u8 0, .int .u8 0, .int .u8 0, .int .u8 0, .int .u8 0, .int .u8 0, .int .u8 0, .int .u8 0, .int .u8 0, .int .u8 0, .int .u8 0, .int .u8 0, .int .u8 0, .int .u8 0, .str []] 0 [.int .i64 0, .int .u8 0, .int .u8 0, .int .u8 0, .int .u8 0, .int .u8 0, .int .u8 0, .int .u8 0, .int .u8 0, .int .i64 0, .int .i64 0, .int .u8 0, .int .u8 0, .int .u8 0, .int .u8 0, .int .u8 0, .int .u8 0, .int .u8 0, .int .u8 0, .int .u8 0, .int .u8 0, .int .u8 0, .int .u8 0, .int .u8 0, .int .u8 0, .int .u8 0, .int .u8 0, .int .i64 0, .int .u8 0, .int .u8 0, .int .u8 0, .int .u8 0, .int .u8 0, .int .u8 0, .int .u8 0, .int .u8 0, .int .u8 0, .int .u8 0, .int .u8 0, .int .u8 0, .int .u8 0, .int .u8 0, .int .u8 0, .int .u8 0, .int .i64 0, .int .u8 0, .int .u8 0, .int .u8 0, .int .u8 0, .int .u8 0, .int .u8 0, .int .u8 0, .int .u8 0, .int .u8 0, .int .u8 0, .int .u8 0, .int .u8 0, .int .u8 0, .int .u8 0, .int .u8 0, .int .u8 0, .str []] = mz := rfl
theorem mz_zy : splice mz 0 [.int .i64 0, .int .u8 0, .int .u8 0, .int .u8 0, .int .u8 0, .int .u8 0, .int .u8 0, .int .u8 0, .int .u8 0, .int .i64 0, .int .i64 0, .int .u8 0, .int .u8 0, .int .u8 0, .int .u8 0, .int .u8 0, .int .u8 0, .int .u8 0, .int .u8 0, .int .u8 0, .int .u8 0, .int .u8 0, .int .u8 0, .int .u8 0, .int .u8 0, .int .u8 0, .int .u8 0, .int .i64 0, .int .u8 0, .int .u8 0, .int .u8 0, .int .u8 0, .int .u8 0, .int .u8 0, .int .u8 0, .int .u8 0, .int .u8 0, .int .u8 0, .int .u8 0, .int .u8 0, .int .u8 0, .int .u8 0, .int .u8 0, .int .u8 0, .int .i64 0, .int .u8 0, .int .u8 0, .int .u8 0, .int .u8 0, .int .u8 0, .int .u8 0, .int .u8 0, .int .u8 0, .int .u8 0, .int .u8 0, .int .u8 0, .int .u8 0, .int .u8 0, .int .u8 0, .int .u8 0, .int .u8 0, .str []] = mz := rfl
instance : ClL mz := (inferInstance : ClL (mrc mr0))
instance : PlL mz := (inferInstance : PlL (mrc mr0))
theorem mz_all : cut mz 0 (some 62) = some (.agg mz) := rfl
theorem mz_len : mz.length = 62 := rfl
theorem mz_sc : mz.all scalar = true := rfl
section
variable {σ : VHeap} {Post : KP} {env : Env} {kk s : Int} {y : Nat} {l key : List UInt8} {bad B1 B2 O : Bool} {M : Mr} {o2 : Nat × VObj}
set_option maxHeartbeats 4000000 in
theorem take9 (hB : belH σ.length σ) (hl : l.length ≤ 140737488355328) (hy : y < 256) (e1 : env 1 = .int .i64 s) (e4 : env 4 = .ptr (σ.length + 0) 1 0) (e8 : env 8 = .int .i64 kk) (e9 : env 9 = .int .i64 (y : Int)) (e10 : env 10 = .ptr (σ.length + 3) 1 0) (e11 : env 11 = .str key)
    (hM : okM M) (eM : (readM kk l bad key).m = M) (eO : ((readM kk l bad key).ok && (!(readM kk l bad key).bad && decide ((readM kk l bad key).l.length = 0))) = O)
    (hR : U Tryd.prog 32 [.agg (mrc M)] (.bool B1)) (hS : B1 = true → U Tryd.prog 75 [.agg (mrc M), .int .i64 s] (.bool B2))
    (hk : Post (if (O && (B1 && B2)) = true then .tup [.agg (mrc M), .int .i64 (2 + (y : Int)), .int .i64 0] else .tup [.agg mz, .int .i64 0, .int .i64 4]) σ) :
    vrun Tryd.prog σ.length vb36_9 env (σ ++ [(1, .box mz false), D.dd, o2, (1, .box [.sl (bsl l), .bool bad] false)]) (vend vf36 (TrimP σ.length Post)) := by
  have w1 := mz_zz
  have w2 := mz_zy
  have w3 := mz_all
  have w4 := mz_len
  have w5 := mz_sc
  have w6 := mz_st hM
  have w7 : splice mz 0 (mrc M) = mrc M := ms_all hM
  have w8 := mrc_len hM
  have w9 := mrc_sc (m := M)
  have wA := mrc_all hM
  have k1 : IntKind.i64.wrap (2 + (y : Int)) = 2 + (y : Int) := w_i64 (by omega) (by omega)
  rw [vb36_9_eq]
  refine W ?_
  refine ct ?_
  refine tRead (k := kk) (l := l) (bad := bad) (key := key) hl (lget rfl rfl) ?_
  rw [eM, eO, lset rfl]
  generalize rdO 1 (readM kk l bad key).l (readM kk l bad key).bad = o3
  cases O with
  | false =>
    rw [Bool.false_and, if_neg (by simp)] at hk
    refine W ?_
    exact hk
  | true =>
    rw [Bool.true_and] at hk
    refine W ?_
    refine cu hR ?_
    cases B1 with
    | false =>
      rw [Bool.false_and, if_neg (by simp)] at hk
      refine W ?_
      exact hk
    | true =>
      rw [Bool.true_and] at hk
      refine W ?_
      refine cu (hS rfl) ?_
      cases B2 with
      | false =>
        rw [if_neg (by simp)] at hk
        refine W ?_
        exact hk
      | true =>
        rw [if_pos rfl] at hk
        refine W ?_
        exact hk
end
end Go.Proofs.YtdkjcadffhnjgaaDoor
