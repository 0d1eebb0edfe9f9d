/- Functions of the program as the small machine's code. Written by a program of this project (wip/tools/simpieces.py). No conditions. -/
import Derived.Test.YtkafliflpplpeaaSimB2
namespace Go.Proofs.Ytkafliflpplpeaa.Sim
set_option linter.unusedSimpArgs false
set_option linter.unusedVariables false
open Go
set_option maxRecDepth 100000
/-- awardingbody/awardingbodylaw39.DigestBack -/
def c2 : CFun where
  np := 1
  deep := true
  res := [(.t 2)]
  body :=
    (.seq
      (.region [
        ⟨(some 1), (.box (some 1) 4 1 (.t 0)), none, []⟩,
        ⟨(some 2), (.move (.c (.bool false))), none, []⟩])
      (.seq
        (.region [
          ⟨(some 13), (.load true 4 (.t 1)), none, []⟩,
          ⟨(some 3), (.alloc (some 3) 4 [(.agg [(.int .u32 0), (.int .u32 0), (.int .u32 0), (.int .u32 0)])]), none, []⟩,
          ⟨none, (.store 4 (.t 3) (.t 13)), none, [1, 0, 0, 1]⟩])
        (.seq
          (.region [
            ⟨(some 14), (.load true 4 (.t 3)), none, []⟩,
            ⟨(some 15), (.call 6 [(.t 14)]), none, [0]⟩,
            ⟨(some 4), (.move (.t 15)), none, [1, 1, 0, 1]⟩])
          (.seq
            (.region [
              ⟨(some 17), (.move (.t 4)), none, []⟩,
              ⟨(some 18), (.call 7 [(.t 17)]), none, [0]⟩,
              ⟨(some 16), (.move (.t 18)), none, [1]⟩,
              ⟨(some 19), (.extract (.t 16) 0), none, [2]⟩,
              ⟨(some 20), (.extract (.t 16) 1), none, [2]⟩,
              ⟨(some 5), (.alloc (some 5) 4 [(.agg [(.int .u32 0), (.int .u32 0), (.int .u32 0), (.int .u32 0)])]), none, []⟩,
              ⟨none, (.store 4 (.t 5) (.t 19)), none, [5, 3, 1, 0, 1, 2, 3, 5]⟩,
              ⟨(some 6), (.move (.t 20)), none, [4, 6, 0, 1, 2, 3, 4, 5, 6]⟩])
            (.seq
              (.region [
                ⟨(some 22), (.move (.t 4)), none, []⟩,
                ⟨(some 23), (.bin .add (.t 22) (.c (.str [48]))), none, [0]⟩,
                ⟨(some 24), (.call 7 [(.t 23)]), none, [1]⟩,
                ⟨(some 21), (.move (.t 24)), none, [2]⟩,
                ⟨(some 25), (.extract (.t 21) 0), none, [3]⟩,
                ⟨(some 26), (.extract (.t 21) 1), none, [3]⟩,
                ⟨(some 7), (.alloc (some 7) 4 [(.agg [(.int .u32 0), (.int .u32 0), (.int .u32 0), (.int .u32 0)])]), none, []⟩,
                ⟨none, (.store 4 (.t 7) (.t 25)), none, [6, 4, 2, 0, 1, 2, 3, 4, 6]⟩,
                ⟨(some 8), (.move (.t 26)), none, [5, 7, 0, 1, 2, 3, 4, 5, 6, 7]⟩])
              (.seq
                (.region [
                  ⟨(some 28), (.move (.t 4)), none, []⟩,
                  ⟨(some 29), (.move (.t 4)), none, []⟩,
                  ⟨(some 30), (.len true (.t 29)), none, [1]⟩,
                  ⟨(some 31), (.bin .sub (.t 30) (.c (.int .i64 1))), none, [2]⟩,
                  ⟨(some 32), (.mm true (.c (.int .i64 0)) (.t 31)), none, [3]⟩,
                  ⟨(some 33), (.slice none (.t 28) none (some (.t 32))), none, [0, 4]⟩,
                  ⟨(some 34), (.call 7 [(.t 33)]), none, [5]⟩,
                  ⟨(some 27), (.move (.t 34)), none, [6]⟩,
                  ⟨(some 35), (.extract (.t 27) 0), none, [7]⟩,
                  ⟨(some 36), (.extract (.t 27) 1), none, [7]⟩,
                  ⟨(some 9), (.alloc (some 9) 4 [(.agg [(.int .u32 0), (.int .u32 0), (.int .u32 0), (.int .u32 0)])]), none, []⟩,
                  ⟨none, (.store 4 (.t 9) (.t 35)), none, [10, 8, 6, 0, 1, 2, 3, 4, 5, 6, 7, 8, 10]⟩,
                  ⟨(some 10), (.move (.t 36)), none, [9, 11, 0, 1, 2, 3, 4, 5, 6, 7, 8, 9, 10, 11]⟩])
                (.seq
                  (.region [
                    ⟨(some 38), (.move (.t 4)), none, []⟩,
                    ⟨(some 39), (.move (.t 4)), none, []⟩,
                    ⟨(some 40), (.len true (.t 39)), none, [1]⟩,
                    ⟨(some 41), (.mm false (.c (.int .i64 1)) (.t 40)), none, [2]⟩,
                    ⟨(some 42), (.slice none (.t 38) (some (.t 41)) none), none, [0, 3]⟩,
                    ⟨(some 43), (.bin .add (.c (.str [65])) (.t 42)), none, [4]⟩,
                    ⟨(some 44), (.call 7 [(.t 43)]), none, [5]⟩,
                    ⟨(some 37), (.move (.t 44)), none, [6]⟩,
                    ⟨(some 45), (.extract (.t 37) 0), none, [7]⟩,
                    ⟨(some 46), (.extract (.t 37) 1), none, [7]⟩,
                    ⟨(some 11), (.alloc (some 11) 4 [(.agg [(.int .u32 0), (.int .u32 0), (.int .u32 0), (.int .u32 0)])]), none, []⟩,
                    ⟨none, (.store 4 (.t 11) (.t 45)), none, [10, 8, 6, 0, 1, 2, 3, 4, 5, 6, 7, 8, 10]⟩,
                    ⟨(some 12), (.move (.t 46)), none, [9, 11, 0, 1, 2, 3, 4, 5, 6, 7, 8, 9, 10, 11]⟩])
                  (.seq
                    (.region [
                      ⟨(some 47), (.move (.t 6)), none, []⟩,
                      ⟨(some 48), (.bin .eql (.t 47) (.c (.int .i64 0))), none, [0]⟩,
                      ⟨(some 49), (.move (.t 48)), none, [1]⟩,
                      ⟨(some 50), (.load true 4 (.t 5)), (some (49, true)), [2]⟩,
                      ⟨(some 51), (.load true 4 (.t 3)), (some (49, true)), [2]⟩,
                      ⟨(some 52), (.eqv false true [.i, .i, .i, .i] (.t 50) (.t 51)), (some (49, true)), [3, 4, 2]⟩,
                      ⟨(some 53), (.pick (.t 49) (.t 52) (.c (.bool false))), none, [2, 5]⟩,
                      ⟨(some 54), (.move (.t 53)), none, [6, 2]⟩,
                      ⟨(some 55), (.move (.t 4)), (some (54, true)), [7]⟩,
                      ⟨(some 56), (.len true (.t 55)), (some (54, true)), [8, 7]⟩,
                      ⟨(some 57), (.bin .eql (.t 56) (.c (.int .i64 32))), (some (54, true)), [9, 7]⟩,
                      ⟨(some 58), (.pick (.t 54) (.t 57) (.c (.bool false))), none, [7, 10]⟩,
                      ⟨(some 59), (.move (.t 58)), none, [11, 7]⟩,
                      ⟨(some 60), (.move (.t 8)), (some (59, true)), [12]⟩,
                      ⟨(some 61), (.bin .eql (.t 60) (.c (.int .i64 7))), (some (59, true)), [13, 12]⟩,
                      ⟨(some 62), (.pick (.t 59) (.t 61) (.c (.bool false))), none, [12, 14]⟩,
                      ⟨(some 63), (.move (.t 62)), none, [15, 12]⟩,
                      ⟨(some 64), (.move (.t 10)), (some (63, true)), [16]⟩,
                      ⟨(some 65), (.bin .eql (.t 64) (.c (.int .i64 7))), (some (63, true)), [17, 16]⟩,
                      ⟨(some 66), (.pick (.t 63) (.t 65) (.c (.bool false))), none, [16, 18]⟩,
                      ⟨(some 67), (.move (.t 66)), none, [19, 16]⟩,
                      ⟨(some 68), (.move (.t 12)), (some (67, true)), [20]⟩,
                      ⟨(some 69), (.bin .eql (.t 68) (.c (.int .i64 7))), (some (67, true)), [21, 20]⟩,
                      ⟨(some 70), (.pick (.t 67) (.t 69) (.c (.bool false))), none, [20, 22]⟩,
                      ⟨(some 71), (.move (.t 70)), none, [23, 20]⟩,
                      ⟨(some 72), (.call 8 []), (some (71, true)), [24, 24]⟩,
                      ⟨(some 73), (.pick (.t 71) (.t 72) (.c (.bool false))), none, [24, 25]⟩,
                      ⟨(some 2), (.move (.t 73)), none, [26, 25, 0, 1, 2, 3, 4, 5, 6, 7, 8, 9, 10, 11, 12, 13, 14, 15, 16, 17, 18, 19, 20, 21, 22, 23, 24, 25, 26]⟩])
                    .ret))))))))
@[reducible] def d3_0 : List KO := [
  ⟨(some 12), (.aaddr 4 1 (.t 3) (.c (.int .i64 0))), none, []⟩,
  ⟨(some 13), (.load false 1 (.t 12)), none, [0]⟩,
  ⟨(some 14), (.aaddr 4 1 (.t 3) (.c (.int .i64 1))), none, []⟩,
  ⟨(some 15), (.load false 1 (.t 14)), none, [2]⟩,
  ⟨(some 16), (.aaddr 4 1 (.t 3) (.c (.int .i64 2))), none, []⟩,
  ⟨(some 17), (.load false 1 (.t 16)), none, [4]⟩,
  ⟨(some 18), (.aaddr 4 1 (.t 3) (.c (.int .i64 3))), none, []⟩,
  ⟨(some 19), (.load false 1 (.t 18)), none, [6]⟩,
  ⟨(some 4), (.move (.t 13)), none, [1, 0, 1]⟩,
  ⟨(some 5), (.move (.t 15)), none, [3, 8, 0, 1, 2, 3, 8]⟩,
  ⟨(some 6), (.move (.t 17)), none, [5, 9, 0, 1, 2, 3, 4, 5, 8, 9]⟩,
  ⟨(some 7), (.move (.t 19)), none, [7, 10, 0, 1, 2, 3, 4, 5, 6, 7, 8, 9, 10]⟩]
def l3_0 : KC :=
  (.seq
    (.seq
      (.region [
        ⟨(some 20), (.move (.t 9)), none, []⟩,
        ⟨(some 21), (.bin .lss (.t 20) (.c (.int .i64 12))), none, [0]⟩])
      (.cond (.t 21)
        .skip
        (.exit 0)))
    (.seq
      (.block 1 [1, 4, 5, 6, 7, 8, 9]
        (.seq
          (.region [
            ⟨(some 24), (.move (.t 8)), none, []⟩,
            ⟨(some 25), (.move (.t 6)), none, []⟩,
            ⟨(some 26), (.callv (.t 24) [(.t 25), (.c (.int .u64 16))]), none, [0, 1]⟩,
            ⟨(some 6), (.move (.t 26)), none, [2, 2, 0, 1, 2]⟩])
          (.seq
            (.region [
              ⟨(some 27), (.move (.t 8)), none, []⟩,
              ⟨(some 28), (.move (.t 5)), none, []⟩,
              ⟨(some 29), (.move (.t 6)), none, []⟩,
              ⟨(some 30), (.bin .xor (.t 28) (.t 29)), none, [1, 2]⟩,
              ⟨(some 31), (.callv (.t 27) [(.t 30), (.c (.int .u64 7))]), none, [0, 3]⟩,
              ⟨(some 5), (.move (.t 31)), none, [4, 4, 0, 1, 2, 3, 4]⟩])
            (.seq
              (.region [
                ⟨(some 32), (.move (.t 6)), none, []⟩,
                ⟨(some 33), (.move (.t 5)), none, []⟩,
                ⟨(some 34), (.bin .sub (.t 32) (.t 33)), none, [0, 1]⟩,
                ⟨(some 6), (.move (.t 34)), none, [2, 0, 1, 2]⟩])
              (.seq
                (.region [
                  ⟨(some 35), (.move (.t 8)), none, []⟩,
                  ⟨(some 36), (.move (.t 7)), none, []⟩,
                  ⟨(some 37), (.move (.t 4)), none, []⟩,
                  ⟨(some 38), (.bin .xor (.t 36) (.t 37)), none, [1, 2]⟩,
                  ⟨(some 39), (.callv (.t 35) [(.t 38), (.c (.int .u64 13))]), none, [0, 3]⟩,
                  ⟨(some 7), (.move (.t 39)), none, [4, 4, 0, 1, 2, 3, 4]⟩])
                (.seq
                  (.region [
                    ⟨(some 40), (.move (.t 4)), none, []⟩,
                    ⟨(some 41), (.move (.t 7)), none, []⟩,
                    ⟨(some 42), (.bin .sub (.t 40) (.t 41)), none, [0, 1]⟩,
                    ⟨(some 4), (.move (.t 42)), none, [2, 0, 1, 2]⟩])
                  (.seq
                    (.region [
                      ⟨(some 43), (.move (.t 8)), none, []⟩,
                      ⟨(some 44), (.move (.t 7)), none, []⟩,
                      ⟨(some 45), (.move (.t 6)), none, []⟩,
                      ⟨(some 46), (.bin .xor (.t 44) (.t 45)), none, [1, 2]⟩,
                      ⟨(some 47), (.callv (.t 43) [(.t 46), (.c (.int .u64 8))]), none, [0, 3]⟩,
                      ⟨(some 7), (.move (.t 47)), none, [4, 4, 0, 1, 2, 3, 4]⟩])
                    (.seq
                      (.region [
                        ⟨(some 48), (.move (.t 6)), none, []⟩,
                        ⟨(some 49), (.move (.t 7)), none, []⟩,
                        ⟨(some 50), (.bin .sub (.t 48) (.t 49)), none, [0, 1]⟩,
                        ⟨(some 6), (.move (.t 50)), none, [2, 0, 1, 2]⟩])
                      (.seq
                        (.region [
                          ⟨(some 51), (.move (.t 8)), none, []⟩,
                          ⟨(some 52), (.move (.t 4)), none, []⟩,
                          ⟨(some 53), (.callv (.t 51) [(.t 52), (.c (.int .u64 16))]), none, [0, 1]⟩,
                          ⟨(some 4), (.move (.t 53)), none, [2, 2, 0, 1, 2]⟩])
                        (.seq
                          (.region [
                            ⟨(some 54), (.move (.t 8)), none, []⟩,
                            ⟨(some 55), (.move (.t 5)), none, []⟩,
                            ⟨(some 56), (.move (.t 4)), none, []⟩,
                            ⟨(some 57), (.bin .xor (.t 55) (.t 56)), none, [1, 2]⟩,
                            ⟨(some 58), (.callv (.t 54) [(.t 57), (.c (.int .u64 5))]), none, [0, 3]⟩,
                            ⟨(some 5), (.move (.t 58)), none, [4, 4, 0, 1, 2, 3, 4]⟩])
                          (.region [
                            ⟨(some 59), (.move (.t 4)), none, []⟩,
                            ⟨(some 60), (.move (.t 5)), none, []⟩,
                            ⟨(some 61), (.bin .sub (.t 59) (.t 60)), none, [0, 1]⟩,
                            ⟨(some 4), (.move (.t 61)), none, [2, 0, 1, 2]⟩])))))))))))
      (.region [
        ⟨(some 22), (.move (.t 9)), none, []⟩,
        ⟨(some 23), (.bin .add (.t 22) (.c (.int .i64 1))), none, [0]⟩,
        ⟨(some 9), (.move (.t 23)), none, [1, 0, 1]⟩])))
/-- awardingbody/awardingbodylaw39.DigestUndone -/
def c3 : CFun where
  np := 1
  deep := true
  res := [(.t 2)]
  body :=
    (.seq
      (.region [
        ⟨(some 1), (.box (some 1) 4 1 (.t 0)), none, []⟩,
        ⟨(some 2), (.move (.c (.bool false))), none, []⟩])
      (.seq
        (.region [
          ⟨(some 10), (.load true 4 (.t 1)), none, []⟩,
          ⟨(some 11), (.call 9 [(.t 10)]), none, [0]⟩,
          ⟨(some 3), (.alloc (some 3) 4 [(.agg [(.int .u32 0), (.int .u32 0), (.int .u32 0), (.int .u32 0)])]), none, []⟩,
          ⟨none, (.store 4 (.t 3) (.t 11)), none, [2, 1, 1, 0, 1, 2]⟩])
        (.seq
          (.dregion d3_0)
          (.seq
            (.region [
              ⟨(some 8), (.move (.c (.fn 10 []))), none, []⟩])
            (.seq
              (.seq
                (.region [
                  ⟨(some 9), (.move (.c (.int .i64 0))), none, []⟩])
                (.block 0 [1, 4, 5, 6, 7]
                  (.loop [1, 4, 5, 6, 7, 8, 9] l3_0)))
              (.seq
                (.region [
                  ⟨(some 62), (.move (.t 4)), none, []⟩,
                  ⟨(some 63), (.move (.t 5)), none, []⟩,
                  ⟨(some 64), (.move (.t 6)), none, []⟩,
                  ⟨(some 65), (.move (.t 7)), none, []⟩,
                  ⟨(some 66), (.build [(.int .u32 0), (.int .u32 0), (.int .u32 0), (.int .u32 0)] [(0, 1, (.t 62)), (1, 1, (.t 63)), (2, 1, (.t 64)), (3, 1, (.t 65))]), none, [0, 1, 2, 3]⟩,
                  ⟨(some 67), (.load true 4 (.t 1)), none, []⟩,
                  ⟨(some 68), (.eqv false true [.i, .i, .i, .i] (.t 66) (.t 67)), none, [4, 5]⟩,
                  ⟨(some 69), (.move (.t 68)), none, [6]⟩,
                  ⟨(some 70), (.call 8 []), (some (69, true)), [7, 7]⟩,
                  ⟨(some 71), (.pick (.t 69) (.t 70) (.c (.bool false))), none, [7, 8]⟩,
                  ⟨(some 2), (.move (.t 71)), none, [9, 8, 0, 1, 2, 3, 4, 5, 6, 7, 8, 9]⟩])
                .ret))))))
theorem rd3_0 (E : Env) (st : St) : Run E (.dregion d3_0) st = regT (runOps E (Call E) d3_0 st) := run_dpure (by decide +kernel) rfl st
@[reducible] def d4_0 : List KO := [
  ⟨(some 41), (.load true 4 (.t 5)), none, []⟩,
  ⟨(some 42), (.move (.t 1)), none, []⟩,
  ⟨(some 43), (.move (.t 2)), none, []⟩,
  ⟨(some 44), (.call 12 [(.t 42), (.t 43)]), none, [1, 2]⟩,
  ⟨(some 15), (.alloc none 1 [(.int .u32 0), (.int .u32 0), (.int .u32 0), (.int .u32 0)]), none, []⟩,
  ⟨(some 16), (.alloc none 1 [(.int .u32 0), (.int .u32 0), (.int .u32 0), (.int .u32 0)]), none, []⟩,
  ⟨none, (.store 4 (.t 15) (.t 41)), none, [4, 0, 3, 0, 4, 5]⟩,
  ⟨none, (.store 4 (.t 16) (.t 44)), none, [5, 3, 6, 0, 1, 2, 3, 4, 5, 6]⟩]
@[reducible] def d4_1 : List KO := [
  ⟨(some 45), (.load true 4 (.t 5)), none, []⟩,
  ⟨(some 46), (.call 9 [(.t 45)]), none, [0]⟩,
  ⟨(some 47), (.load true 4 (.t 5)), none, []⟩,
  ⟨(some 48), (.call 13 [(.t 47)]), none, [2, 1]⟩,
  ⟨(some 49), (.eqv false true [.i, .i, .i, .i] (.t 46) (.t 48)), none, [1, 3]⟩,
  ⟨(some 50), (.move (.t 49)), none, [4, 3]⟩,
  ⟨(some 51), (.move (.t 1)), (some (50, true)), [5]⟩,
  ⟨(some 52), (.move (.t 2)), (some (50, true)), [5]⟩,
  ⟨(some 53), (.call 14 [(.t 51), (.t 52)]), (some (50, true)), [6, 7, 5, 5]⟩,
  ⟨(some 54), (.load true 4 (.t 16)), (some (50, true)), [5]⟩,
  ⟨(some 55), (.eqv false true [.i, .i, .i, .i] (.t 53) (.t 54)), (some (50, true)), [8, 9, 5]⟩,
  ⟨(some 56), (.pick (.t 50) (.t 55) (.c (.bool false))), none, [5, 10]⟩,
  ⟨(some 57), (.move (.t 56)), none, [11, 8]⟩,
  ⟨(some 58), (.move (.t 1)), (some (57, true)), [12]⟩,
  ⟨(some 59), (.move (.t 3)), (some (57, true)), [12]⟩,
  ⟨(some 60), (.call 15 [(.t 58), (.t 59)]), (some (57, true)), [13, 14, 12, 12]⟩,
  ⟨(some 61), (.move (.t 1)), (some (57, true)), [12]⟩,
  ⟨(some 62), (.move (.t 3)), (some (57, true)), [12]⟩,
  ⟨(some 63), (.call 16 [(.t 61), (.t 62)]), (some (57, true)), [16, 17, 15, 12]⟩,
  ⟨(some 64), (.eqv false true [.i, .i, .i, .i] (.t 60) (.t 63)), (some (57, true)), [15, 18, 12]⟩,
  ⟨(some 65), (.pick (.t 57) (.t 64) (.c (.bool false))), none, [12, 19]⟩,
  ⟨(some 66), (.move (.t 65)), none, [20, 18]⟩,
  ⟨(some 67), (.move (.t 1)), (some (66, true)), [21]⟩,
  ⟨(some 68), (.move (.t 4)), (some (66, true)), [21]⟩,
  ⟨(some 69), (.call 17 [(.t 67), (.t 68)]), (some (66, true)), [22, 23, 21, 21]⟩,
  ⟨(some 70), (.move (.t 1)), (some (66, true)), [21]⟩,
  ⟨(some 71), (.move (.t 4)), (some (66, true)), [21]⟩,
  ⟨(some 72), (.call 18 [(.t 70), (.t 71)]), (some (66, true)), [25, 26, 24, 21]⟩,
  ⟨(some 73), (.eqv false true [.i, .i, .i, .i] (.t 69) (.t 72)), (some (66, true)), [24, 27, 21]⟩,
  ⟨(some 74), (.pick (.t 66) (.t 73) (.c (.bool false))), none, [21, 28]⟩,
  ⟨(some 75), (.move (.t 74)), none, [29, 27]⟩,
  ⟨(some 76), (.load true 4 (.t 15)), (some (75, true)), [30]⟩,
  ⟨(some 77), (.load true 4 (.t 16)), (some (75, true)), [30]⟩,
  ⟨(some 78), (.call 19 [(.t 76), (.t 77)]), (some (75, true)), [31, 32, 30, 30]⟩,
  ⟨(some 79), (.load true 4 (.t 15)), (some (75, true)), [30]⟩,
  ⟨(some 80), (.load true 4 (.t 16)), (some (75, true)), [30]⟩,
  ⟨(some 81), (.call 20 [(.t 79), (.t 80)]), (some (75, true)), [34, 35, 33, 30]⟩,
  ⟨(some 82), (.eqv false true [.i, .i, .i, .i] (.t 78) (.t 81)), (some (75, true)), [33, 36, 30]⟩,
  ⟨(some 83), (.pick (.t 75) (.t 82) (.c (.bool false))), none, [30, 37]⟩,
  ⟨(some 84), (.move (.t 83)), none, [38, 36]⟩,
  ⟨(some 85), (.load true 4 (.t 15)), (some (84, true)), [39]⟩,
  ⟨(some 86), (.call 6 [(.t 85)]), (some (84, true)), [40, 39, 39]⟩,
  ⟨(some 87), (.load true 4 (.t 15)), (some (84, true)), [39]⟩,
  ⟨(some 88), (.call 21 [(.t 87)]), (some (84, true)), [42, 41, 39]⟩,
  ⟨(some 89), (.bin .eql (.t 86) (.t 88)), (some (84, true)), [41, 43, 39]⟩,
  ⟨(some 90), (.pick (.t 84) (.t 89) (.c (.bool false))), none, [39, 44]⟩,
  ⟨(some 91), (.move (.t 90)), none, [45, 43]⟩,
  ⟨(some 92), (.load true 4 (.t 11)), (some (91, true)), [46]⟩,
  ⟨(some 93), (.load true 4 (.t 13)), (some (91, true)), [46]⟩,
  ⟨(some 94), (.eqv false true [.i, .i, .i, .i] (.t 92) (.t 93)), (some (91, true)), [47, 48, 46]⟩,
  ⟨(some 95), (.pick (.t 91) (.t 94) (.c (.bool false))), none, [46, 49]⟩,
  ⟨(some 96), (.move (.t 95)), none, [50, 46]⟩,
  ⟨(some 97), (.move (.t 12)), (some (96, true)), [51]⟩,
  ⟨(some 98), (.move (.t 14)), (some (96, true)), [51]⟩,
  ⟨(some 99), (.bin .eql (.t 97) (.t 98)), (some (96, true)), [52, 53, 51]⟩,
  ⟨(some 100), (.pick (.t 96) (.t 99) (.c (.bool false))), none, [51, 54]⟩,
  ⟨(some 101), (.move (.t 100)), none, [55, 51]⟩,
  ⟨(some 102), (.call 8 []), (some (101, true)), [56, 56]⟩,
  ⟨(some 103), (.pick (.t 101) (.t 102) (.c (.bool false))), none, [56, 57]⟩,
  ⟨(some 10), (.move (.t 103)), none, [58, 57, 0, 1, 2, 3, 4, 5, 6, 7, 8, 9, 10, 11, 12, 13, 14, 15, 16, 17, 18, 19, 20, 21, 22, 23, 24, 25, 26, 27, 28, 29, 30, 31, 32, 33, 34, 35, 36, 37, 38, 39, 40, 41, 42, 43, 44, 45, 46, 47, 48, 49, 50, 51, 52, 53, 54, 55, 56, 57, 58]⟩]
/-- awardingbody/awardingbodylaw39.DigestExact -/
def c4 : CFun where
  np := 5
  deep := true
  res := [(.t 10)]
  body :=
    (.seq
      (.region [
        ⟨(some 5), (.box (some 5) 4 1 (.t 0)), none, []⟩,
        ⟨(some 10), (.move (.c (.bool false))), none, []⟩])
      (.seq
        (.seq
          (.region [
            ⟨(some 17), (.move (.t 2)), none, []⟩,
            ⟨(some 18), (.len false (.t 17)), none, [0]⟩,
            ⟨(some 19), (.bin .gtr (.t 18) (.c (.int .i64 100))), none, [1]⟩,
            ⟨(some 20), (.move (.t 19)), none, [2]⟩,
            ⟨(some 21), (.move (.t 3)), (some (20, false)), [3]⟩,
            ⟨(some 22), (.len false (.t 21)), (some (20, false)), [4, 3]⟩,
            ⟨(some 23), (.bin .gtr (.t 22) (.c (.int .i64 100))), (some (20, false)), [5, 3]⟩,
            ⟨(some 24), (.pick (.t 20) (.c (.bool true)) (.t 23)), none, [3, 6]⟩,
            ⟨(some 25), (.move (.t 24)), none, [7, 3]⟩,
            ⟨(some 26), (.move (.t 4)), (some (25, false)), [8]⟩,
            ⟨(some 27), (.len true (.t 26)), (some (25, false)), [9, 8]⟩,
            ⟨(some 28), (.bin .gtr (.t 27) (.c (.int .i64 400))), (some (25, false)), [10, 8]⟩,
            ⟨(some 29), (.pick (.t 25) (.c (.bool true)) (.t 28)), none, [8, 11]⟩])
          (.cond (.t 29)
            (.seq
              (.region [
                ⟨(some 30), (.call 8 []), none, []⟩,
                ⟨(some 10), (.move (.t 30)), none, [0, 0, 0]⟩])
              .ret)
            .skip))
        (.seq
          (.region [
            ⟨(some 32), (.move (.t 4)), none, []⟩,
            ⟨(some 33), (.call 7 [(.t 32)]), none, [0]⟩,
            ⟨(some 31), (.move (.t 33)), none, [1]⟩,
            ⟨(some 34), (.extract (.t 31) 0), none, [2]⟩,
            ⟨(some 35), (.extract (.t 31) 1), none, [2]⟩,
            ⟨(some 11), (.alloc (some 11) 4 [(.agg [(.int .u32 0), (.int .u32 0), (.int .u32 0), (.int .u32 0)])]), none, []⟩,
            ⟨none, (.store 4 (.t 11) (.t 34)), none, [5, 3, 1, 0, 1, 2, 3, 5]⟩,
            ⟨(some 12), (.move (.t 35)), none, [4, 6, 0, 1, 2, 3, 4, 5, 6]⟩])
          (.seq
            (.region [
              ⟨(some 37), (.move (.t 4)), none, []⟩,
              ⟨(some 38), (.call 11 [(.t 37)]), none, [0]⟩,
              ⟨(some 36), (.move (.t 38)), none, [1]⟩,
              ⟨(some 39), (.extract (.t 36) 0), none, [2]⟩,
              ⟨(some 40), (.extract (.t 36) 1), none, [2]⟩,
              ⟨(some 13), (.alloc (some 13) 4 [(.agg [(.int .u32 0), (.int .u32 0), (.int .u32 0), (.int .u32 0)])]), none, []⟩,
              ⟨none, (.store 4 (.t 13) (.t 39)), none, [5, 3, 1, 0, 1, 2, 3, 5]⟩,
              ⟨(some 14), (.move (.t 40)), none, [4, 6, 0, 1, 2, 3, 4, 5, 6]⟩])
            (.seq
              (.dregion d4_0)
              (.seq
                (.dregion d4_1)
                .ret))))))
-- d4_0: not quiet
theorem rd4_1 (E : Env) (h6 : deepB E 6 = true) (h8 : deepB E 8 = true) (h9 : deepB E 9 = true) (h13 : deepB E 13 = true) (h14 : deepB E 14 = true) (h15 : deepB E 15 = true) (h16 : deepB E 16 = true) (h17 : deepB E 17 = true) (h18 : deepB E 18 = true) (h19 : deepB E 19 = true) (h20 : deepB E 20 = true) (h21 : deepB E 21 = true) (st : St) : Run E (.dregion d4_1) st = regT (runOps E (Call E) d4_1 st) := run_dpure (by decide +kernel) (by simp [callsOf, d4_1, h6, h8, h9, h13, h14, h15, h16, h17, h18, h19, h20, h21]) st
def l5_0 : KC :=
  (.seq
    (.region [
      ⟨(some 26), (.bin .lss (.t 25) (.t 24)), none, []⟩])
    (.seq
      (.cond (.t 26)
        .skip
        (.exit 0))
      (.seq
        (.block 1 [0, 1, 2, 7, 8, 23, 24, 25]
          (.seq
            (.region [
              ⟨(some 27), (.iaddr 1 (.t 23) (.t 25)), none, []⟩,
              ⟨(some 28), (.load false 1 (.t 27)), none, [0]⟩,
              ⟨(some 10), (.move (.t 28)), none, [1, 0, 1]⟩])
            (.region [
              ⟨(some 29), (.move (.t 7)), none, []⟩,
              ⟨(some 30), (.move (.t 10)), none, []⟩,
              ⟨(some 31), (.conv .u64 (.t 30)), none, [1]⟩,
              ⟨(some 32), (.conv .u32 (.t 31)), none, [2]⟩,
              ⟨(some 33), (.move (.t 10)), none, []⟩,
              ⟨(some 34), (.conv .u64 (.t 33)), none, [4]⟩,
              ⟨(some 35), (.bin .shr (.t 34) (.c (.int .u64 32))), none, [5]⟩,
              ⟨(some 36), (.conv .u32 (.t 35)), none, [6]⟩,
              ⟨(some 37), (.lit 1 (.int .u32 0) 2 [(0, (.t 32)), (1, (.t 36))]), none, [3, 7]⟩,
              ⟨(some 38), (.append 1 4 (.t 29) (.t 37)), none, [0, 8]⟩,
              ⟨(some 7), (.move (.t 38)), none, [9, 9, 0, 1, 2, 3, 4, 5, 6, 7, 8, 9]⟩])))
        (.region [
          ⟨(some 39), (.bin .add (.t 25) (.c (.int .i64 1))), none, []⟩,
          ⟨(some 25), (.move (.t 39)), none, [0]⟩]))))
def l5_2 : KC :=
  (.seq
    (.seq
      (.region [
        ⟨(some 46), (.move (.t 13)), none, []⟩,
        ⟨(some 47), (.bin .geq (.t 46) (.c (.int .i64 0))), none, [0]⟩])
      (.cond (.t 47)
        .skip
        (.exit 4)))
    (.seq
      (.block 5 [0, 1, 2, 7, 8, 11, 12, 13]
        (.seq
          (.region [
            ⟨(some 50), (.move (.t 12)), none, []⟩,
            ⟨(some 51), (.bin .shl (.t 50) (.c (.int .u64 8))), none, [0]⟩,
            ⟨(some 12), (.move (.t 51)), none, [1, 0, 1]⟩])
          (.seq
            (.region [
              ⟨(some 52), (.move (.t 11)), none, []⟩,
              ⟨(some 53), (.move (.t 13)), none, []⟩,
              ⟨(some 54), (.bin .add (.t 52) (.t 53)), none, [0, 1]⟩,
              ⟨(some 55), (.move (.t 1)), none, []⟩,
              ⟨(some 56), (.len true (.t 55)), none, [3]⟩,
              ⟨(some 57), (.bin .lss (.t 54) (.t 56)), none, [2, 4]⟩])
            (.cond (.t 57)
              (.region [
                ⟨(some 58), (.move (.t 12)), none, []⟩,
                ⟨(some 59), (.move (.t 1)), none, []⟩,
                ⟨(some 60), (.move (.t 11)), none, []⟩,
                ⟨(some 61), (.move (.t 13)), none, []⟩,
                ⟨(some 62), (.bin .add (.t 60) (.t 61)), none, [2, 3]⟩,
                ⟨(some 63), (.indexS (.t 59) (.t 62)), none, [1, 4]⟩,
                ⟨(some 64), (.conv .u32 (.t 63)), none, [5]⟩,
                ⟨(some 65), (.bin .or (.t 58) (.t 64)), none, [0, 6]⟩,
                ⟨(some 12), (.move (.t 65)), none, [7, 0, 1, 2, 3, 4, 5, 6, 7]⟩])
              .skip))))
      (.region [
        ⟨(some 48), (.move (.t 13)), none, []⟩,
        ⟨(some 49), (.bin .sub (.t 48) (.c (.int .i64 1))), none, [0]⟩,
        ⟨(some 13), (.move (.t 49)), none, [1, 0, 1]⟩])))
def l5_1 : KC :=
  (.seq
    (.seq
      (.region [
        ⟨(some 40), (.move (.t 11)), none, []⟩,
        ⟨(some 41), (.move (.t 1)), none, []⟩,
        ⟨(some 42), (.len true (.t 41)), none, [1]⟩,
        ⟨(some 43), (.bin .lss (.t 40) (.t 42)), none, [0, 2]⟩])
      (.cond (.t 43)
        .skip
        (.exit 2)))
    (.seq
      (.block 3 [0, 1, 2, 7, 8, 11]
        (.seq
          (.region [
            ⟨(some 12), (.move (.c (.int .u32 0))), none, []⟩])
          (.seq
            (.seq
              (.region [
                ⟨(some 13), (.move (.c (.int .i64 3))), none, []⟩])
              (.block 4 [0, 1, 2, 7, 8, 11, 12]
                (.loop [0, 1, 2, 7, 8, 11, 12, 13] l5_2)))
            (.region [
              ⟨(some 66), (.move (.t 8)), none, []⟩,
              ⟨(some 67), (.move (.t 12)), none, []⟩,
              ⟨(some 68), (.lit 1 (.int .u32 0) 1 [(0, (.t 67))]), none, [1]⟩,
              ⟨(some 69), (.append 1 4 (.t 66) (.t 68)), none, [0, 2]⟩,
              ⟨(some 8), (.move (.t 69)), none, [3, 3, 0, 1, 2, 3]⟩]))))
      (.region [
        ⟨(some 44), (.move (.t 11)), none, []⟩,
        ⟨(some 45), (.bin .add (.t 44) (.c (.int .i64 4))), none, [0]⟩,
        ⟨(some 11), (.move (.t 45)), none, [1, 0, 1]⟩])))
/-- awardingbody/awardingbodylaw39.DigestForms -/
def c5 : CFun where
  np := 3
  deep := true
  res := [(.t 6)]
  body :=
    (.seq
      (.region [
        ⟨(some 6), (.move (.c (.bool false))), none, []⟩])
      (.seq
        (.seq
          (.region [
            ⟨(some 14), (.move (.t 0)), none, []⟩,
            ⟨(some 15), (.len false (.t 14)), none, [0]⟩,
            ⟨(some 16), (.bin .gtr (.t 15) (.c (.int .i64 60))), none, [1]⟩,
            ⟨(some 17), (.move (.t 16)), none, [2]⟩,
            ⟨(some 18), (.move (.t 1)), (some (17, false)), [3]⟩,
            ⟨(some 19), (.len true (.t 18)), (some (17, false)), [4, 3]⟩,
            ⟨(some 20), (.bin .gtr (.t 19) (.c (.int .i64 200))), (some (17, false)), [5, 3]⟩,
            ⟨(some 21), (.pick (.t 17) (.c (.bool true)) (.t 20)), none, [3, 6]⟩])
          (.cond (.t 21)
            (.seq
              (.region [
                ⟨(some 22), (.call 8 []), none, []⟩,
                ⟨(some 6), (.move (.t 22)), none, [0, 0, 0]⟩])
              .ret)
            .skip))
        (.seq
          (.region [
            ⟨(some 7), (.move (.c (.list true true []))), none, []⟩,
            ⟨(some 8), (.move (.c (.list true true []))), none, [0]⟩])
          (.seq
            (.seq
              (.region [
                ⟨(some 23), (.move (.t 0)), none, []⟩,
                ⟨(some 24), (.len false (.t 23)), none, [0]⟩,
                ⟨(some 25), (.move (.c (.int .i64 0))), none, []⟩])
              (.block 0 [0, 1, 2, 7, 8]
                (.loop [0, 1, 2, 7, 8, 23, 24, 25] l5_0)))
            (.seq
              (.seq
                (.region [
                  ⟨(some 11), (.move (.c (.int .i64 0))), none, []⟩])
                (.block 2 [0, 1, 2, 7, 8]
                  (.loop [0, 1, 2, 7, 8, 11] l5_1)))
              (.seq
                (.region [
                  ⟨(some 70), (.move (.t 8)), none, []⟩,
                  ⟨(some 71), (.move (.t 1)), none, []⟩,
                  ⟨(some 72), (.len true (.t 71)), none, [1]⟩,
                  ⟨(some 73), (.conv .u32 (.t 72)), none, [2]⟩,
                  ⟨(some 74), (.lit 1 (.int .u32 0) 1 [(0, (.t 73))]), none, [3]⟩,
                  ⟨(some 75), (.append 1 4 (.t 70) (.t 74)), none, [0, 4]⟩,
                  ⟨(some 8), (.move (.t 75)), none, [5, 5, 0, 1, 2, 3, 4, 5]⟩])
                (.seq
                  (.region [
                    ⟨(some 76), (.move (.t 2)), none, []⟩,
                    ⟨(some 77), (.move (.t 0)), none, []⟩,
                    ⟨(some 78), (.call 15 [(.t 76), (.t 77)]), none, [0, 1]⟩,
                    ⟨(some 79), (.move (.t 2)), none, []⟩,
                    ⟨(some 80), (.move (.t 7)), none, []⟩,
                    ⟨(some 81), (.call 14 [(.t 79), (.t 80)]), none, [3, 4, 2]⟩,
                    ⟨(some 82), (.eqv false true [.i, .i, .i, .i] (.t 78) (.t 81)), none, [2, 5]⟩,
                    ⟨(some 83), (.move (.t 82)), none, [6, 5]⟩,
                    ⟨(some 84), (.move (.t 2)), (some (83, true)), [7]⟩,
                    ⟨(some 85), (.move (.t 1)), (some (83, true)), [7]⟩,
                    ⟨(some 86), (.call 17 [(.t 84), (.t 85)]), (some (83, true)), [8, 9, 7, 7]⟩,
                    ⟨(some 87), (.move (.t 2)), (some (83, true)), [7]⟩,
                    ⟨(some 88), (.move (.t 8)), (some (83, true)), [7]⟩,
                    ⟨(some 89), (.call 14 [(.t 87), (.t 88)]), (some (83, true)), [11, 12, 10, 7]⟩,
                    ⟨(some 90), (.eqv false true [.i, .i, .i, .i] (.t 86) (.t 89)), (some (83, true)), [10, 13, 7]⟩,
                    ⟨(some 91), (.pick (.t 83) (.t 90) (.c (.bool false))), none, [7, 14]⟩,
                    ⟨(some 92), (.move (.t 91)), none, [15, 13]⟩,
                    ⟨(some 93), (.call 8 []), (some (92, true)), [16, 16]⟩,
                    ⟨(some 94), (.pick (.t 92) (.t 93) (.c (.bool false))), none, [16, 17]⟩,
                    ⟨(some 6), (.move (.t 94)), none, [18, 17, 0, 1, 2, 3, 4, 5, 6, 7, 8, 9, 10, 11, 12, 13, 14, 15, 16, 17, 18]⟩])
                  .ret)))))))
def l7_0 : KC :=
  (.seq
    (.region [
      ⟨(some 14), (.bin .lss (.t 13) (.t 12)), none, []⟩])
    (.seq
      (.cond (.t 14)
        .skip
        (.exit 0))
      (.seq
        (.block 1 [0, 2, 4, 12, 13]
          (.seq
            (.region [
              ⟨(some 15), (.move (.t 13)), none, []⟩,
              ⟨(some 5), (.move (.t 15)), none, [0, 0]⟩])
            (.seq
              (.region [
                ⟨(some 16), (.move (.t 0)), none, []⟩,
                ⟨(some 17), (.move (.t 5)), none, []⟩,
                ⟨(some 18), (.indexS (.t 16) (.t 17)), none, [0, 1]⟩,
                ⟨(some 19), (.call 24 [(.c (.str [48, 49, 50, 51, 52, 53, 54, 55, 56, 57, 97, 98, 99, 100, 101, 102])), (.t 18)]), none, [2]⟩,
                ⟨(some 6), (.move (.t 19)), none, [3, 3, 0, 1, 2, 3]⟩])
              (.seq
                (.seq
                  (.region [
                    ⟨(some 20), (.move (.t 6)), none, []⟩,
                    ⟨(some 21), (.bin .lss (.t 20) (.c (.int .i64 0))), none, [0]⟩])
                  (.cond (.t 21)
                    (.seq
                      (.region [
                        ⟨(some 22), (.build [(.int .u32 0), (.int .u32 0), (.int .u32 0), (.int .u32 0)] []), none, []⟩,
                        ⟨none, (.store 4 (.t 2) (.t 22)), none, [0, 0]⟩,
                        ⟨(some 3), (.move (.c (.int .i64 7))), none, [1, 0, 1]⟩])
                      .ret)
                    .skip))
                (.region [
                  ⟨(some 23), (.move (.t 5)), none, []⟩,
                  ⟨(some 24), (.bin .quo (.t 23) (.c (.int .i64 8))), none, [0]⟩,
                  ⟨(some 25), (.move (.t 5)), none, []⟩,
                  ⟨(some 26), (.bin .quo (.t 25) (.c (.int .i64 8))), none, [2]⟩,
                  ⟨(some 27), (.aaddr 4 1 (.t 4) (.t 26)), none, [3]⟩,
                  ⟨(some 28), (.load false 1 (.t 27)), none, [4]⟩,
                  ⟨(some 29), (.bin .shl (.t 28) (.c (.int .u64 4))), none, [5]⟩,
                  ⟨(some 30), (.move (.t 6)), none, []⟩,
                  ⟨(some 31), (.conv .u32 (.t 30)), none, [7]⟩,
                  ⟨(some 32), (.bin .or (.t 29) (.t 31)), none, [6, 8]⟩,
                  ⟨(some 33), (.aaddr 4 1 (.t 4) (.t 24)), none, [1, 0, 1, 2, 3, 4, 5, 6, 7, 8, 9]⟩,
                  ⟨none, (.store 1 (.t 33) (.t 32)), none, [10, 9, 0, 1, 2, 3, 4, 5, 6, 7, 8, 9]⟩])))))
        (.region [
          ⟨(some 34), (.bin .add (.t 13) (.c (.int .i64 1))), none, []⟩,
          ⟨(some 13), (.move (.t 34)), none, [0]⟩]))))
/-- awardingbody/digest.Parse -/
def c7 : CFun where
  np := 1
  deep := true
  res := [(.cell 2 true 4), (.t 3)]
  body :=
    (.seq
      (.region [
        ⟨(some 2), (.alloc (some 2) 4 [(.agg [(.int .u32 0), (.int .u32 0), (.int .u32 0), (.int .u32 0)])]), none, []⟩,
        ⟨(some 3), (.move (.c (.int .i64 0))), none, []⟩])
      (.seq
        (.seq
          (.region [
            ⟨(some 7), (.move (.t 0)), none, []⟩,
            ⟨(some 8), (.len true (.t 7)), none, [0]⟩,
            ⟨(some 9), (.bin .neq (.t 8) (.c (.int .i64 32))), none, [1]⟩])
          (.cond (.t 9)
            (.seq
              (.region [
                ⟨(some 10), (.build [(.int .u32 0), (.int .u32 0), (.int .u32 0), (.int .u32 0)] []), none, []⟩,
                ⟨none, (.store 4 (.t 2) (.t 10)), none, [0, 0]⟩,
                ⟨(some 3), (.move (.c (.int .i64 7))), none, [1, 0, 1]⟩])
              .ret)
            .skip))
        (.seq
          (.region [
            ⟨(some 4), (.alloc (some 4) 4 [(.agg [(.int .u32 0), (.int .u32 0), (.int .u32 0), (.int .u32 0)])]), none, []⟩])
          (.seq
            (.seq
              (.region [
                ⟨(some 11), (.move (.t 0)), none, []⟩,
                ⟨(some 12), (.len true (.t 11)), none, [0]⟩,
                ⟨(some 13), (.move (.c (.int .i64 0))), none, []⟩])
              (.block 0 [2, 4]
                (.loop [0, 2, 4, 12, 13] l7_0)))
            (.seq
              (.region [
                ⟨(some 35), (.load true 4 (.t 4)), none, []⟩,
                ⟨none, (.store 4 (.t 2) (.t 35)), none, [0, 0]⟩,
                ⟨(some 3), (.move (.c (.int .i64 0))), none, [1, 0, 1]⟩])
              .ret)))))
/-- awardingbody/awardingbodylaw39.sane -/
def c8 : CFun where
  np := 0
  deep := true
  res := [(.t 0)]
  body :=
    (.seq
      (.region [
        ⟨(some 0), (.move (.c (.bool false))), none, []⟩])
      (.seq
        (.region [
          ⟨(some 4), (.call 7 [(.c (.str [48, 48, 48, 48, 48, 48, 48, 49, 48, 48, 48, 48, 48, 48, 48, 48, 48, 48, 48, 48, 48, 48, 48, 48, 48, 48, 48, 48, 48, 48, 102, 102]))]), none, []⟩,
          ⟨(some 3), (.move (.t 4)), none, [0]⟩,
          ⟨(some 5), (.extract (.t 3) 0), none, [1]⟩,
          ⟨(some 6), (.extract (.t 3) 1), none, [1]⟩,
          ⟨(some 1), (.alloc (some 1) 4 [(.agg [(.int .u32 0), (.int .u32 0), (.int .u32 0), (.int .u32 0)])]), none, []⟩,
          ⟨none, (.store 4 (.t 1) (.t 5)), none, [4, 2, 0, 0, 1, 2, 4]⟩,
          ⟨(some 2), (.move (.t 6)), none, [3, 5, 0, 1, 2, 3, 4, 5]⟩])
        (.seq
          (.region [
            ⟨(some 7), (.move (.t 2)), none, []⟩,
            ⟨(some 8), (.bin .eql (.t 7) (.c (.int .i64 0))), none, [0]⟩,
            ⟨(some 9), (.move (.t 8)), none, [1]⟩,
            ⟨(some 10), (.load true 4 (.t 1)), (some (9, true)), [2]⟩,
            ⟨(some 11), (.build [(.int .u32 0), (.int .u32 0), (.int .u32 0), (.int .u32 0)] [(0, 1, (.c (.int .u32 1))), (1, 1, (.c (.int .u32 0))), (2, 1, (.c (.int .u32 0))), (3, 1, (.c (.int .u32 255)))]), (some (9, true)), [2]⟩,
            ⟨(some 12), (.eqv false true [.i, .i, .i, .i] (.t 10) (.t 11)), (some (9, true)), [3, 4, 2]⟩,
            ⟨(some 13), (.pick (.t 9) (.t 12) (.c (.bool false))), none, [2, 5]⟩,
            ⟨(some 14), (.move (.t 13)), none, [6, 2]⟩,
            ⟨(some 15), (.load true 4 (.t 1)), (some (14, true)), [7]⟩,
            ⟨(some 16), (.call 6 [(.t 15)]), (some (14, true)), [8, 7, 7]⟩,
            ⟨(some 17), (.bin .eql (.t 16) (.c (.str [48, 48, 48, 48, 48, 48, 48, 49, 48, 48, 48, 48, 48, 48, 48, 48, 48, 48, 48, 48, 48, 48, 48, 48, 48, 48, 48, 48, 48, 48, 102, 102]))), (some (14, true)), [9, 7]⟩,
            ⟨(some 18), (.pick (.t 14) (.t 17) (.c (.bool false))), none, [7, 10]⟩,
            ⟨(some 19), (.move (.t 18)), none, [11, 9]⟩,
            ⟨(some 20), (.build [(.int .u32 0), (.int .u32 0), (.int .u32 0), (.int .u32 0)] []), (some (19, true)), [12]⟩,
            ⟨(some 21), (.call 9 [(.t 20)]), (some (19, true)), [13, 12, 12]⟩,
            ⟨(some 22), (.build [(.int .u32 0), (.int .u32 0), (.int .u32 0), (.int .u32 0)] []), (some (19, true)), [12]⟩,
            ⟨(some 23), (.eqv false true [.i, .i, .i, .i] (.t 21) (.t 22)), (some (19, true)), [14, 15, 12]⟩,
            ⟨(some 24), (.pick (.t 19) (.t 23) (.c (.bool false))), none, [12, 16]⟩,
            ⟨(some 25), (.move (.t 24)), none, [17, 14]⟩,
            ⟨(some 26), (.build [(.int .u32 0), (.int .u32 0), (.int .u32 0), (.int .u32 0)] [(0, 1, (.c (.int .u32 1)))]), (some (25, true)), [18]⟩,
            ⟨(some 27), (.call 9 [(.t 26)]), (some (25, true)), [19, 18, 18]⟩,
            ⟨(some 28), (.build [(.int .u32 0), (.int .u32 0), (.int .u32 0), (.int .u32 0)] [(0, 1, (.c (.int .u32 1)))]), (some (25, true)), [18]⟩,
            ⟨(some 29), (.eqv true true [.i, .i, .i, .i] (.t 27) (.t 28)), (some (25, true)), [20, 21, 18]⟩,
            ⟨(some 30), (.pick (.t 25) (.t 29) (.c (.bool false))), none, [18, 22]⟩,
            ⟨(some 31), (.move (.t 30)), none, [23, 20]⟩,
            ⟨(some 32), (.load true 4 (.t 1)), (some (31, true)), [24]⟩,
            ⟨(some 33), (.load true 4 (.t 1)), (some (31, true)), [24]⟩,
            ⟨(some 34), (.call 19 [(.t 32), (.t 33)]), (some (31, true)), [25, 26, 24, 24]⟩,
            ⟨(some 35), (.lit 1 (.int .u32 0) 8 [(0, (.c (.int .u32 1))), (1, (.c (.int .u32 0))), (2, (.c (.int .u32 0))), (3, (.c (.int .u32 255))), (4, (.c (.int .u32 1))), (5, (.c (.int .u32 0))), (6, (.c (.int .u32 0))), (7, (.c (.int .u32 255)))]), (some (31, true)), [24]⟩,
            ⟨(some 36), (.call 14 [(.c (.int .u32 1)), (.t 35)]), (some (31, true)), [28, 27, 24]⟩,
            ⟨(some 37), (.eqv false true [.i, .i, .i, .i] (.t 34) (.t 36)), (some (31, true)), [27, 29, 24]⟩,
            ⟨(some 38), (.pick (.t 31) (.t 37) (.c (.bool false))), none, [24, 30]⟩,
            ⟨(some 0), (.move (.t 38)), none, [31, 29, 0, 1, 2, 3, 4, 5, 6, 7, 8, 9, 10, 11, 12, 13, 14, 15, 16, 17, 18, 19, 20, 21, 22, 23, 24, 25, 26, 27, 28, 29, 30, 31]⟩])
          .ret)))
@[reducible] def d9_0 : List KO := [
  ⟨(some 7), (.aaddr 4 1 (.t 1) (.c (.int .i64 0))), none, []⟩,
  ⟨(some 8), (.load false 1 (.t 7)), none, [0]⟩,
  ⟨(some 9), (.aaddr 4 1 (.t 1) (.c (.int .i64 1))), none, []⟩,
  ⟨(some 10), (.load false 1 (.t 9)), none, [2]⟩,
  ⟨(some 11), (.aaddr 4 1 (.t 1) (.c (.int .i64 2))), none, []⟩,
  ⟨(some 12), (.load false 1 (.t 11)), none, [4]⟩,
  ⟨(some 13), (.aaddr 4 1 (.t 1) (.c (.int .i64 3))), none, []⟩,
  ⟨(some 14), (.load false 1 (.t 13)), none, [6]⟩,
  ⟨(some 3), (.move (.t 8)), none, [1, 0, 1]⟩,
  ⟨(some 4), (.move (.t 10)), none, [3, 8, 0, 1, 2, 3, 8]⟩,
  ⟨(some 5), (.move (.t 12)), none, [5, 9, 0, 1, 2, 3, 4, 5, 8, 9]⟩,
  ⟨(some 6), (.move (.t 14)), none, [7, 10, 0, 1, 2, 3, 4, 5, 6, 7, 8, 9, 10]⟩]
def l9_0 : KC :=
  (.seq
    (.region [
      ⟨(some 16), (.bin .lss (.t 15) (.c (.int .i64 12))), none, []⟩])
    (.seq
      (.cond (.t 16)
        .skip
        (.exit 0))
      (.seq
        (.block 1 [2, 3, 4, 5, 6, 15]
          (.seq
            (.region [
              ⟨(some 17), (.move (.t 3)), none, []⟩,
              ⟨(some 18), (.move (.t 4)), none, []⟩,
              ⟨(some 19), (.bin .add (.t 17) (.t 18)), none, [0, 1]⟩,
              ⟨(some 3), (.move (.t 19)), none, [2, 0, 1, 2]⟩])
            (.seq
              (.region [
                ⟨(some 20), (.move (.t 4)), none, []⟩,
                ⟨(some 21), (.call 25 [(.t 20), (.c (.int .i64 5))]), none, [0]⟩,
                ⟨(some 22), (.move (.t 3)), none, []⟩,
                ⟨(some 23), (.bin .xor (.t 21) (.t 22)), none, [1, 2]⟩,
                ⟨(some 4), (.move (.t 23)), none, [3, 1, 0, 1, 2, 3]⟩])
              (.seq
                (.region [
                  ⟨(some 24), (.move (.t 3)), none, []⟩,
                  ⟨(some 25), (.call 25 [(.t 24), (.c (.int .i64 16))]), none, [0]⟩,
                  ⟨(some 3), (.move (.t 25)), none, [1, 1, 0, 1]⟩])
                (.seq
                  (.region [
                    ⟨(some 26), (.move (.t 5)), none, []⟩,
                    ⟨(some 27), (.move (.t 6)), none, []⟩,
                    ⟨(some 28), (.bin .add (.t 26) (.t 27)), none, [0, 1]⟩,
                    ⟨(some 5), (.move (.t 28)), none, [2, 0, 1, 2]⟩])
                  (.seq
                    (.region [
                      ⟨(some 29), (.move (.t 6)), none, []⟩,
                      ⟨(some 30), (.call 25 [(.t 29), (.c (.int .i64 8))]), none, [0]⟩,
                      ⟨(some 31), (.move (.t 5)), none, []⟩,
                      ⟨(some 32), (.bin .xor (.t 30) (.t 31)), none, [1, 2]⟩,
                      ⟨(some 6), (.move (.t 32)), none, [3, 1, 0, 1, 2, 3]⟩])
                    (.seq
                      (.region [
                        ⟨(some 33), (.move (.t 3)), none, []⟩,
                        ⟨(some 34), (.move (.t 6)), none, []⟩,
                        ⟨(some 35), (.bin .add (.t 33) (.t 34)), none, [0, 1]⟩,
                        ⟨(some 3), (.move (.t 35)), none, [2, 0, 1, 2]⟩])
                      (.seq
                        (.region [
                          ⟨(some 36), (.move (.t 6)), none, []⟩,
                          ⟨(some 37), (.call 25 [(.t 36), (.c (.int .i64 13))]), none, [0]⟩,
                          ⟨(some 38), (.move (.t 3)), none, []⟩,
                          ⟨(some 39), (.bin .xor (.t 37) (.t 38)), none, [1, 2]⟩,
                          ⟨(some 6), (.move (.t 39)), none, [3, 1, 0, 1, 2, 3]⟩])
                        (.seq
                          (.region [
                            ⟨(some 40), (.move (.t 5)), none, []⟩,
                            ⟨(some 41), (.move (.t 4)), none, []⟩,
                            ⟨(some 42), (.bin .add (.t 40) (.t 41)), none, [0, 1]⟩,
                            ⟨(some 5), (.move (.t 42)), none, [2, 0, 1, 2]⟩])
                          (.seq
                            (.region [
                              ⟨(some 43), (.move (.t 4)), none, []⟩,
                              ⟨(some 44), (.call 25 [(.t 43), (.c (.int .i64 7))]), none, [0]⟩,
                              ⟨(some 45), (.move (.t 5)), none, []⟩,
                              ⟨(some 46), (.bin .xor (.t 44) (.t 45)), none, [1, 2]⟩,
                              ⟨(some 4), (.move (.t 46)), none, [3, 1, 0, 1, 2, 3]⟩])
                            (.region [
                              ⟨(some 47), (.move (.t 5)), none, []⟩,
                              ⟨(some 48), (.call 25 [(.t 47), (.c (.int .i64 16))]), none, [0]⟩,
                              ⟨(some 5), (.move (.t 48)), none, [1, 1, 0, 1]⟩])))))))))))
        (.region [
          ⟨(some 49), (.bin .add (.t 15) (.c (.int .i64 1))), none, []⟩,
          ⟨(some 15), (.move (.t 49)), none, [0]⟩]))))
/-- awardingbody/digest.Permute -/
def c9 : CFun where
  np := 1
  deep := true
  res := [(.cell 2 true 4)]
  body :=
    (.seq
      (.region [
        ⟨(some 1), (.box (some 1) 4 1 (.t 0)), none, []⟩,
        ⟨(some 2), (.alloc (some 2) 4 [(.agg [(.int .u32 0), (.int .u32 0), (.int .u32 0), (.int .u32 0)])]), none, []⟩])
      (.seq
        (.dregion d9_0)
        (.seq
          (.seq
            (.region [
              ⟨(some 15), (.move (.c (.int .i64 0))), none, []⟩])
            (.block 0 [2, 3, 4, 5, 6]
              (.loop [2, 3, 4, 5, 6, 15] l9_0)))
          (.seq
            (.region [
              ⟨(some 50), (.move (.t 3)), none, []⟩,
              ⟨(some 51), (.move (.t 4)), none, []⟩,
              ⟨(some 52), (.move (.t 5)), none, []⟩,
              ⟨(some 53), (.move (.t 6)), none, []⟩,
              ⟨(some 54), (.build [(.int .u32 0), (.int .u32 0), (.int .u32 0), (.int .u32 0)] [(0, 1, (.t 50)), (1, 1, (.t 51)), (2, 1, (.t 52)), (3, 1, (.t 53))]), none, [0, 1, 2, 3]⟩,
              ⟨none, (.store 4 (.t 2) (.t 54)), none, [4, 0, 1, 2, 3, 4]⟩])
            .ret))))
theorem rd9_0 (E : Env) (st : St) : Run E (.dregion d9_0) st = regT (runOps E (Call E) d9_0 st) := run_dpure (by decide +kernel) rfl st
/-- awardingbody/awardingbodylaw39.DigestUndone$1 -/
def c10 : CFun where
  np := 2
  deep := true
  res := [(.t 4)]
  body :=
    (.seq
      (.region [
        ⟨(some 4), (.move (.c (.int .u32 0))), none, []⟩])
      (.seq
        (.region [
          ⟨(some 5), (.move (.t 0)), none, []⟩,
          ⟨(some 6), (.move (.t 1)), none, []⟩,
          ⟨(some 7), (.bin .shr (.t 5) (.t 6)), none, [0, 1]⟩,
          ⟨(some 8), (.move (.t 0)), none, []⟩,
          ⟨(some 9), (.move (.t 1)), none, []⟩,
          ⟨(some 10), (.bin .sub (.c (.int .u64 32)) (.t 9)), none, [4]⟩,
          ⟨(some 11), (.bin .shl (.t 8) (.t 10)), none, [3, 5]⟩,
          ⟨(some 12), (.bin .or (.t 7) (.t 11)), none, [2, 6]⟩,
          ⟨(some 4), (.move (.t 12)), none, [7, 0, 1, 2, 3, 4, 5, 6, 7]⟩])
        .ret))
def l11_0 : KC :=
  (.seq
    (.seq
      (.region [
        ⟨(some 11), (.move (.t 5)), none, []⟩,
        ⟨(some 12), (.bin .lss (.t 11) (.c (.int .i64 32))), none, [0]⟩])
      (.cond (.t 12)
        .skip
        (.exit 0)))
    (.seq
      (.block 1 [0, 2, 4, 5]
        (.seq
          (.region [
            ⟨(some 6), (.move (.c (.int .u32 0))), none, []⟩])
          (.seq
            (.block 2 [0, 2, 4, 5, 6]
              (.seq
                (.region [
                  ⟨(some 17), (.move (.t 0)), none, []⟩,
                  ⟨(some 18), (.move (.t 5)), none, []⟩,
                  ⟨(some 19), (.indexS (.t 17) (.t 18)), none, [0, 1]⟩,
                  ⟨(some 20), (.bin .geq (.t 19) (.c (.int .u8 48))), none, [2]⟩,
                  ⟨(some 21), (.move (.t 20)), none, [3]⟩,
                  ⟨(some 22), (.move (.t 0)), (some (21, true)), [4]⟩,
                  ⟨(some 23), (.move (.t 5)), (some (21, true)), [4]⟩,
                  ⟨(some 24), (.indexS (.t 22) (.t 23)), (some (21, true)), [5, 6, 4]⟩,
                  ⟨(some 25), (.bin .leq (.t 24) (.c (.int .u8 57))), (some (21, true)), [7, 4]⟩,
                  ⟨(some 26), (.pick (.t 21) (.t 25) (.c (.bool false))), none, [4, 8]⟩,
                  ⟨(some 16), (.move (.t 26)), none, [9, 4]⟩])
                (.cond (.t 16)
                  (.region [
                    ⟨(some 27), (.move (.t 0)), none, []⟩,
                    ⟨(some 28), (.move (.t 5)), none, []⟩,
                    ⟨(some 29), (.indexS (.t 27) (.t 28)), none, [0, 1]⟩,
                    ⟨(some 30), (.bin .sub (.t 29) (.c (.int .u8 48))), none, [2]⟩,
                    ⟨(some 31), (.conv .u32 (.t 30)), none, [3]⟩,
                    ⟨(some 6), (.move (.t 31)), none, [4, 0, 1, 2, 3, 4]⟩])
                  (.seq
                    (.region [
                      ⟨(some 33), (.move (.t 0)), none, []⟩,
                      ⟨(some 34), (.move (.t 5)), none, []⟩,
                      ⟨(some 35), (.indexS (.t 33) (.t 34)), none, [0, 1]⟩,
                      ⟨(some 36), (.bin .geq (.t 35) (.c (.int .u8 97))), none, [2]⟩,
                      ⟨(some 37), (.move (.t 36)), none, [3]⟩,
                      ⟨(some 38), (.move (.t 0)), (some (37, true)), [4]⟩,
                      ⟨(some 39), (.move (.t 5)), (some (37, true)), [4]⟩,
                      ⟨(some 40), (.indexS (.t 38) (.t 39)), (some (37, true)), [5, 6, 4]⟩,
                      ⟨(some 41), (.bin .leq (.t 40) (.c (.int .u8 102))), (some (37, true)), [7, 4]⟩,
                      ⟨(some 42), (.pick (.t 37) (.t 41) (.c (.bool false))), none, [4, 8]⟩,
                      ⟨(some 32), (.move (.t 42)), none, [9, 4]⟩])
                    (.cond (.t 32)
                      (.region [
                        ⟨(some 43), (.move (.t 0)), none, []⟩,
                        ⟨(some 44), (.move (.t 5)), none, []⟩,
                        ⟨(some 45), (.indexS (.t 43) (.t 44)), none, [0, 1]⟩,
                        ⟨(some 46), (.bin .sub (.t 45) (.c (.int .u8 97))), none, [2]⟩,
                        ⟨(some 47), (.conv .u32 (.t 46)), none, [3]⟩,
                        ⟨(some 48), (.bin .add (.t 47) (.c (.int .u32 10))), none, [4]⟩,
                        ⟨(some 6), (.move (.t 48)), none, [5, 0, 1, 2, 3, 4, 5]⟩])
                      (.seq
                        (.region [
                          ⟨(some 15), (.build [(.int .u32 0), (.int .u32 0), (.int .u32 0), (.int .u32 0)] []), none, []⟩,
                          ⟨none, (.store 4 (.t 2) (.t 15)), none, [0, 0]⟩,
                          ⟨(some 3), (.move (.c (.int .i64 7))), none, [1, 0, 1]⟩])
                        .ret))))))
            (.region [
              ⟨(some 49), (.move (.t 5)), none, []⟩,
              ⟨(some 50), (.bin .quo (.t 49) (.c (.int .i64 8))), none, [0]⟩,
              ⟨(some 51), (.move (.t 5)), none, []⟩,
              ⟨(some 52), (.bin .quo (.t 51) (.c (.int .i64 8))), none, [2]⟩,
              ⟨(some 53), (.aaddr 4 1 (.t 4) (.t 52)), none, [3]⟩,
              ⟨(some 54), (.load false 1 (.t 53)), none, [4]⟩,
              ⟨(some 55), (.bin .shl (.t 54) (.c (.int .u64 4))), none, [5]⟩,
              ⟨(some 56), (.move (.t 6)), none, []⟩,
              ⟨(some 57), (.bin .or (.t 55) (.t 56)), none, [6, 7]⟩,
              ⟨(some 58), (.aaddr 4 1 (.t 4) (.t 50)), none, [1, 0, 1, 2, 3, 4, 5, 6, 7, 8]⟩,
              ⟨none, (.store 1 (.t 58) (.t 57)), none, [9, 8, 0, 1, 2, 3, 4, 5, 6, 7, 8]⟩]))))
      (.region [
        ⟨(some 13), (.move (.t 5)), none, []⟩,
        ⟨(some 14), (.bin .add (.t 13) (.c (.int .i64 1))), none, [0]⟩,
        ⟨(some 5), (.move (.t 14)), none, [1, 0, 1]⟩])))
/-- awardingbody/awardingbodyref39.Parse -/
def c11 : CFun where
  np := 1
  deep := true
  res := [(.cell 2 true 4), (.t 3)]
  body :=
    (.seq
      (.region [
        ⟨(some 2), (.alloc (some 2) 4 [(.agg [(.int .u32 0), (.int .u32 0), (.int .u32 0), (.int .u32 0)])]), none, []⟩,
        ⟨(some 3), (.move (.c (.int .i64 0))), none, []⟩])
      (.seq
        (.region [
          ⟨(some 4), (.alloc (some 4) 4 [(.agg [(.int .u32 0), (.int .u32 0), (.int .u32 0), (.int .u32 0)])]), none, []⟩])
        (.seq
          (.seq
            (.region [
              ⟨(some 7), (.move (.t 0)), none, []⟩,
              ⟨(some 8), (.len true (.t 7)), none, [0]⟩,
              ⟨(some 9), (.bin .neq (.t 8) (.c (.int .i64 32))), none, [1]⟩])
            (.cond (.t 9)
              (.seq
                (.region [
                  ⟨(some 10), (.load true 4 (.t 4)), none, []⟩,
                  ⟨none, (.store 4 (.t 2) (.t 10)), none, [0, 0]⟩,
                  ⟨(some 3), (.move (.c (.int .i64 7))), none, [1, 0, 1]⟩])
                .ret)
              .skip))
          (.seq
            (.seq
              (.region [
                ⟨(some 5), (.move (.c (.int .i64 0))), none, []⟩])
              (.block 0 [2, 4]
                (.loop [0, 2, 4, 5] l11_0)))
            (.seq
              (.region [
                ⟨(some 59), (.load true 4 (.t 4)), none, []⟩,
                ⟨none, (.store 4 (.t 2) (.t 59)), none, [0, 0]⟩,
                ⟨(some 3), (.move (.c (.int .i64 0))), none, [1, 0, 1]⟩])
              .ret)))))
def l12_0 : KC :=
  (.seq
    (.seq
      (.region [
        ⟨(some 14), (.move (.t 6)), none, []⟩,
        ⟨(some 15), (.move (.t 1)), none, []⟩,
        ⟨(some 16), (.len false (.t 15)), none, [1]⟩,
        ⟨(some 17), (.bin .lss (.t 14) (.t 16)), none, [0, 2]⟩])
      (.cond (.t 17)
        .skip
        (.exit 0)))
    (.seq
      (.block 1 [1, 4, 5, 6]
        (.seq
          (.region [
            ⟨(some 20), (.move (.t 1)), none, []⟩,
            ⟨(some 21), (.move (.t 6)), none, []⟩,
            ⟨(some 22), (.iaddr 1 (.t 20) (.t 21)), none, [0, 1]⟩,
            ⟨(some 23), (.load false 1 (.t 22)), none, [2]⟩,
            ⟨(some 7), (.move (.t 23)), none, [3, 0, 1, 2, 3]⟩,
            ⟨(some 8), (.move (.c (.int .u32 0))), none, [4, 0, 1, 2, 3, 4]⟩])
          (.seq
            (.seq
              (.region [
                ⟨(some 24), (.move (.t 6)), none, []⟩,
                ⟨(some 25), (.bin .add (.t 24) (.c (.int .i64 1))), none, [0]⟩,
                ⟨(some 26), (.move (.t 1)), none, []⟩,
                ⟨(some 27), (.len false (.t 26)), none, [2]⟩,
                ⟨(some 28), (.bin .lss (.t 25) (.t 27)), none, [1, 3]⟩])
              (.cond (.t 28)
                (.region [
                  ⟨(some 29), (.move (.t 1)), none, []⟩,
                  ⟨(some 30), (.move (.t 6)), none, []⟩,
                  ⟨(some 31), (.bin .add (.t 30) (.c (.int .i64 1))), none, [1]⟩,
                  ⟨(some 32), (.iaddr 1 (.t 29) (.t 31)), none, [0, 2]⟩,
                  ⟨(some 33), (.load false 1 (.t 32)), none, [3]⟩,
                  ⟨(some 8), (.move (.t 33)), none, [4, 0, 1, 2, 3, 4]⟩])
                .skip))
            (.seq
              (.region [
                ⟨(some 34), (.aaddr 4 1 (.t 5) (.c (.int .i64 0))), none, []⟩,
                ⟨(some 35), (.load false 1 (.t 34)), none, [0]⟩,
                ⟨(some 36), (.move (.t 7)), none, []⟩,
                ⟨(some 37), (.bin .xor (.t 35) (.t 36)), none, [1, 2]⟩,
                ⟨(some 38), (.aaddr 4 1 (.t 5) (.c (.int .i64 0))), none, [0, 1, 2, 3]⟩,
                ⟨none, (.store 1 (.t 38) (.t 37)), none, [4, 3, 0, 1, 2, 3]⟩])
              (.seq
                (.region [
                  ⟨(some 39), (.aaddr 4 1 (.t 5) (.c (.int .i64 1))), none, []⟩,
                  ⟨(some 40), (.load false 1 (.t 39)), none, [0]⟩,
                  ⟨(some 41), (.move (.t 8)), none, []⟩,
                  ⟨(some 42), (.bin .xor (.t 40) (.t 41)), none, [1, 2]⟩,
                  ⟨(some 43), (.aaddr 4 1 (.t 5) (.c (.int .i64 1))), none, [0, 1, 2, 3]⟩,
                  ⟨none, (.store 1 (.t 43) (.t 42)), none, [4, 3, 0, 1, 2, 3]⟩])
                (.seq
                  (.region [
                    ⟨(some 44), (.load true 4 (.t 5)), none, []⟩,
                    ⟨(some 45), (.call 13 [(.t 44)]), none, [0]⟩,
                    ⟨none, (.store 4 (.t 5) (.t 45)), none, [1, 1, 0, 1]⟩])
                  (.seq
                    (.region [
                      ⟨(some 46), (.aaddr 4 1 (.t 5) (.c (.int .i64 2))), none, []⟩,
                      ⟨(some 47), (.load false 1 (.t 46)), none, [0]⟩,
                      ⟨(some 48), (.move (.t 7)), none, []⟩,
                      ⟨(some 49), (.bin .xor (.t 47) (.t 48)), none, [1, 2]⟩,
                      ⟨(some 50), (.aaddr 4 1 (.t 5) (.c (.int .i64 2))), none, [0, 1, 2, 3]⟩,
                      ⟨none, (.store 1 (.t 50) (.t 49)), none, [4, 3, 0, 1, 2, 3]⟩])
                    (.region [
                      ⟨(some 51), (.aaddr 4 1 (.t 5) (.c (.int .i64 3))), none, []⟩,
                      ⟨(some 52), (.load false 1 (.t 51)), none, [0]⟩,
                      ⟨(some 53), (.move (.t 8)), none, []⟩,
                      ⟨(some 54), (.bin .xor (.t 52) (.t 53)), none, [1, 2]⟩,
                      ⟨(some 55), (.aaddr 4 1 (.t 5) (.c (.int .i64 3))), none, [0, 1, 2, 3]⟩,
                      ⟨none, (.store 1 (.t 55) (.t 54)), none, [4, 3, 0, 1, 2, 3]⟩]))))))))
      (.region [
        ⟨(some 18), (.move (.t 6)), none, []⟩,
        ⟨(some 19), (.bin .add (.t 18) (.c (.int .i64 2))), none, [0]⟩,
        ⟨(some 6), (.move (.t 19)), none, [1, 0, 1]⟩])))
/-- awardingbody/awardingbodyref39.Words -/
def c12 : CFun where
  np := 2
  deep := true
  res := [(.cell 4 true 4)]
  body :=
    (.seq
      (.region [
        ⟨(some 4), (.alloc (some 4) 4 [(.agg [(.int .u32 0), (.int .u32 0), (.int .u32 0), (.int .u32 0)])]), none, []⟩])
      (.seq
        (.region [
          ⟨(some 9), (.move (.t 0)), none, []⟩,
          ⟨(some 10), (.move (.t 1)), none, []⟩,
          ⟨(some 11), (.len false (.t 10)), none, [1]⟩,
          ⟨(some 12), (.conv .u32 (.t 11)), none, [2]⟩,
          ⟨(some 13), (.build [(.int .u32 0), (.int .u32 0), (.int .u32 0), (.int .u32 0)] [(0, 1, (.c (.int .u32 1702391089))), (1, 1, (.c (.int .u32 1651466610))), (2, 1, (.t 9)), (3, 1, (.t 12))]), none, [0, 3]⟩,
          ⟨(some 5), (.alloc (some 5) 4 [(.agg [(.int .u32 0), (.int .u32 0), (.int .u32 0), (.int .u32 0)])]), none, []⟩,
          ⟨none, (.store 4 (.t 5) (.t 13)), none, [5, 4, 0, 1, 2, 3, 4, 5]⟩])
        (.seq
          (.seq
            (.region [
              ⟨(some 6), (.move (.c (.int .i64 0))), none, []⟩])
            (.block 0 [4, 5]
              (.loop [1, 4, 5, 6] l12_0)))
          (.seq
            (.region [
              ⟨(some 56), (.aaddr 4 1 (.t 5) (.c (.int .i64 2))), none, []⟩,
              ⟨(some 57), (.load false 1 (.t 56)), none, [0]⟩,
              ⟨(some 58), (.bin .xor (.t 57) (.c (.int .u32 4294967295))), none, [1]⟩,
              ⟨(some 59), (.aaddr 4 1 (.t 5) (.c (.int .i64 2))), none, [0, 1, 2]⟩,
              ⟨none, (.store 1 (.t 59) (.t 58)), none, [3, 2, 0, 1, 2]⟩])
            (.seq
              (.region [
                ⟨(some 60), (.load true 4 (.t 5)), none, []⟩,
                ⟨(some 61), (.call 13 [(.t 60)]), none, [0]⟩,
                ⟨(some 62), (.call 13 [(.t 61)]), none, [1, 1]⟩,
                ⟨none, (.store 4 (.t 4) (.t 62)), none, [2, 2, 0, 1, 2]⟩])
              .ret)))))
@[reducible] def d13_0 : List KO := [
  ⟨(some 8), (.aaddr 4 1 (.t 1) (.c (.int .i64 0))), none, []⟩,
  ⟨(some 9), (.load false 1 (.t 8)), none, [0]⟩,
  ⟨(some 10), (.aaddr 4 1 (.t 1) (.c (.int .i64 1))), none, []⟩,
  ⟨(some 11), (.load false 1 (.t 10)), none, [2]⟩,
  ⟨(some 12), (.aaddr 4 1 (.t 1) (.c (.int .i64 2))), none, []⟩,
  ⟨(some 13), (.load false 1 (.t 12)), none, [4]⟩,
  ⟨(some 14), (.aaddr 4 1 (.t 1) (.c (.int .i64 3))), none, []⟩,
  ⟨(some 15), (.load false 1 (.t 14)), none, [6]⟩,
  ⟨(some 3), (.move (.t 9)), none, [1, 0, 1]⟩,
  ⟨(some 4), (.move (.t 11)), none, [3, 8, 0, 1, 2, 3, 8]⟩,
  ⟨(some 5), (.move (.t 13)), none, [5, 9, 0, 1, 2, 3, 4, 5, 8, 9]⟩,
  ⟨(some 6), (.move (.t 15)), none, [7, 10, 0, 1, 2, 3, 4, 5, 6, 7, 8, 9, 10]⟩]
def l13_0 : KC :=
  (.seq
    (.seq
      (.region [
        ⟨(some 16), (.move (.t 7)), none, []⟩,
        ⟨(some 17), (.bin .lss (.t 16) (.c (.int .i64 12))), none, [0]⟩])
      (.cond (.t 17)
        .skip
        (.exit 0)))
    (.seq
      (.block 1 [2, 3, 4, 5, 6, 7]
        (.seq
          (.region [
            ⟨(some 20), (.move (.t 3)), none, []⟩,
            ⟨(some 21), (.move (.t 4)), none, []⟩,
            ⟨(some 22), (.bin .add (.t 20) (.t 21)), none, [0, 1]⟩,
            ⟨(some 3), (.move (.t 22)), none, [2, 0, 1, 2]⟩])
          (.seq
            (.region [
              ⟨(some 23), (.move (.t 4)), none, []⟩,
              ⟨(some 24), (.call 26 [(.t 23), (.c (.int .u64 5))]), none, [0]⟩,
              ⟨(some 25), (.move (.t 3)), none, []⟩,
              ⟨(some 26), (.bin .xor (.t 24) (.t 25)), none, [1, 2]⟩,
              ⟨(some 4), (.move (.t 26)), none, [3, 1, 0, 1, 2, 3]⟩])
            (.seq
              (.region [
                ⟨(some 27), (.move (.t 3)), none, []⟩,
                ⟨(some 28), (.call 26 [(.t 27), (.c (.int .u64 16))]), none, [0]⟩,
                ⟨(some 3), (.move (.t 28)), none, [1, 1, 0, 1]⟩])
              (.seq
                (.region [
                  ⟨(some 29), (.move (.t 5)), none, []⟩,
                  ⟨(some 30), (.move (.t 6)), none, []⟩,
                  ⟨(some 31), (.bin .add (.t 29) (.t 30)), none, [0, 1]⟩,
                  ⟨(some 5), (.move (.t 31)), none, [2, 0, 1, 2]⟩])
                (.seq
                  (.region [
                    ⟨(some 32), (.move (.t 6)), none, []⟩,
                    ⟨(some 33), (.call 26 [(.t 32), (.c (.int .u64 8))]), none, [0]⟩,
                    ⟨(some 34), (.move (.t 5)), none, []⟩,
                    ⟨(some 35), (.bin .xor (.t 33) (.t 34)), none, [1, 2]⟩,
                    ⟨(some 6), (.move (.t 35)), none, [3, 1, 0, 1, 2, 3]⟩])
                  (.seq
                    (.region [
                      ⟨(some 36), (.move (.t 3)), none, []⟩,
                      ⟨(some 37), (.move (.t 6)), none, []⟩,
                      ⟨(some 38), (.bin .add (.t 36) (.t 37)), none, [0, 1]⟩,
                      ⟨(some 3), (.move (.t 38)), none, [2, 0, 1, 2]⟩])
                    (.seq
                      (.region [
                        ⟨(some 39), (.move (.t 6)), none, []⟩,
                        ⟨(some 40), (.call 26 [(.t 39), (.c (.int .u64 13))]), none, [0]⟩,
                        ⟨(some 41), (.move (.t 3)), none, []⟩,
                        ⟨(some 42), (.bin .xor (.t 40) (.t 41)), none, [1, 2]⟩,
                        ⟨(some 6), (.move (.t 42)), none, [3, 1, 0, 1, 2, 3]⟩])
                      (.seq
                        (.region [
                          ⟨(some 43), (.move (.t 5)), none, []⟩,
                          ⟨(some 44), (.move (.t 4)), none, []⟩,
                          ⟨(some 45), (.bin .add (.t 43) (.t 44)), none, [0, 1]⟩,
                          ⟨(some 5), (.move (.t 45)), none, [2, 0, 1, 2]⟩])
                        (.seq
                          (.region [
                            ⟨(some 46), (.move (.t 4)), none, []⟩,
                            ⟨(some 47), (.call 26 [(.t 46), (.c (.int .u64 7))]), none, [0]⟩,
                            ⟨(some 48), (.move (.t 5)), none, []⟩,
                            ⟨(some 49), (.bin .xor (.t 47) (.t 48)), none, [1, 2]⟩,
                            ⟨(some 4), (.move (.t 49)), none, [3, 1, 0, 1, 2, 3]⟩])
                          (.region [
                            ⟨(some 50), (.move (.t 5)), none, []⟩,
                            ⟨(some 51), (.call 26 [(.t 50), (.c (.int .u64 16))]), none, [0]⟩,
                            ⟨(some 5), (.move (.t 51)), none, [1, 1, 0, 1]⟩])))))))))))
      (.region [
        ⟨(some 18), (.move (.t 7)), none, []⟩,
        ⟨(some 19), (.bin .add (.t 18) (.c (.int .i64 1))), none, [0]⟩,
        ⟨(some 7), (.move (.t 19)), none, [1, 0, 1]⟩])))
/-- awardingbody/awardingbodyref39.Permute -/
def c13 : CFun where
  np := 1
  deep := true
  res := [(.cell 2 true 4)]
  body :=
    (.seq
      (.region [
        ⟨(some 1), (.box (some 1) 4 1 (.t 0)), none, []⟩,
        ⟨(some 2), (.alloc (some 2) 4 [(.agg [(.int .u32 0), (.int .u32 0), (.int .u32 0), (.int .u32 0)])]), none, []⟩])
      (.seq
        (.dregion d13_0)
        (.seq
          (.seq
            (.region [
              ⟨(some 7), (.move (.c (.int .i64 0))), none, []⟩])
            (.block 0 [2, 3, 4, 5, 6]
              (.loop [2, 3, 4, 5, 6, 7] l13_0)))
          (.seq
            (.region [
              ⟨(some 52), (.move (.t 3)), none, []⟩,
              ⟨(some 53), (.move (.t 4)), none, []⟩,
              ⟨(some 54), (.move (.t 5)), none, []⟩,
              ⟨(some 55), (.move (.t 6)), none, []⟩,
              ⟨(some 56), (.build [(.int .u32 0), (.int .u32 0), (.int .u32 0), (.int .u32 0)] [(0, 1, (.t 52)), (1, 1, (.t 53)), (2, 1, (.t 54)), (3, 1, (.t 55))]), none, [0, 1, 2, 3]⟩,
              ⟨none, (.store 4 (.t 2) (.t 56)), none, [4, 0, 1, 2, 3, 4]⟩])
            .ret))))
theorem rd13_0 (E : Env) (st : St) : Run E (.dregion d13_0) st = regT (runOps E (Call E) d13_0 st) := run_dpure (by decide +kernel) rfl st
def l14_0 : KC :=
  (.seq
    (.seq
      (.region [
        ⟨(some 14), (.move (.t 6)), none, []⟩,
        ⟨(some 15), (.move (.t 1)), none, []⟩,
        ⟨(some 16), (.len false (.t 15)), none, [1]⟩,
        ⟨(some 17), (.bin .lss (.t 14) (.t 16)), none, [0, 2]⟩])
      (.cond (.t 17)
        .skip
        (.exit 0)))
    (.seq
      (.block 1 [1, 4, 5, 6]
        (.seq
          (.region [
            ⟨(some 20), (.move (.t 1)), none, []⟩,
            ⟨(some 21), (.move (.t 6)), none, []⟩,
            ⟨(some 22), (.iaddr 1 (.t 20) (.t 21)), none, [0, 1]⟩,
            ⟨(some 23), (.load false 1 (.t 22)), none, [2]⟩,
            ⟨(some 7), (.move (.t 23)), none, [3, 0, 1, 2, 3]⟩,
            ⟨(some 8), (.move (.c (.int .u32 0))), none, [4, 0, 1, 2, 3, 4]⟩])
          (.seq
            (.seq
              (.region [
                ⟨(some 24), (.move (.t 6)), none, []⟩,
                ⟨(some 25), (.bin .add (.t 24) (.c (.int .i64 1))), none, [0]⟩,
                ⟨(some 26), (.move (.t 1)), none, []⟩,
                ⟨(some 27), (.len false (.t 26)), none, [2]⟩,
                ⟨(some 28), (.bin .lss (.t 25) (.t 27)), none, [1, 3]⟩])
              (.cond (.t 28)
                (.region [
                  ⟨(some 29), (.move (.t 1)), none, []⟩,
                  ⟨(some 30), (.move (.t 6)), none, []⟩,
                  ⟨(some 31), (.bin .add (.t 30) (.c (.int .i64 1))), none, [1]⟩,
                  ⟨(some 32), (.iaddr 1 (.t 29) (.t 31)), none, [0, 2]⟩,
                  ⟨(some 33), (.load false 1 (.t 32)), none, [3]⟩,
                  ⟨(some 8), (.move (.t 33)), none, [4, 0, 1, 2, 3, 4]⟩])
                .skip))
            (.seq
              (.region [
                ⟨(some 34), (.aaddr 4 1 (.t 5) (.c (.int .i64 0))), none, []⟩,
                ⟨(some 35), (.load false 1 (.t 34)), none, [0]⟩,
                ⟨(some 36), (.move (.t 7)), none, []⟩,
                ⟨(some 37), (.bin .xor (.t 35) (.t 36)), none, [1, 2]⟩,
                ⟨(some 38), (.aaddr 4 1 (.t 5) (.c (.int .i64 0))), none, [0, 1, 2, 3]⟩,
                ⟨none, (.store 1 (.t 38) (.t 37)), none, [4, 3, 0, 1, 2, 3]⟩])
              (.seq
                (.region [
                  ⟨(some 39), (.aaddr 4 1 (.t 5) (.c (.int .i64 1))), none, []⟩,
                  ⟨(some 40), (.load false 1 (.t 39)), none, [0]⟩,
                  ⟨(some 41), (.move (.t 8)), none, []⟩,
                  ⟨(some 42), (.bin .xor (.t 40) (.t 41)), none, [1, 2]⟩,
                  ⟨(some 43), (.aaddr 4 1 (.t 5) (.c (.int .i64 1))), none, [0, 1, 2, 3]⟩,
                  ⟨none, (.store 1 (.t 43) (.t 42)), none, [4, 3, 0, 1, 2, 3]⟩])
                (.seq
                  (.region [
                    ⟨(some 44), (.load true 4 (.t 5)), none, []⟩,
                    ⟨(some 45), (.call 9 [(.t 44)]), none, [0]⟩,
                    ⟨none, (.store 4 (.t 5) (.t 45)), none, [1, 1, 0, 1]⟩])
                  (.seq
                    (.region [
                      ⟨(some 46), (.aaddr 4 1 (.t 5) (.c (.int .i64 2))), none, []⟩,
                      ⟨(some 47), (.load false 1 (.t 46)), none, [0]⟩,
                      ⟨(some 48), (.move (.t 7)), none, []⟩,
                      ⟨(some 49), (.bin .xor (.t 47) (.t 48)), none, [1, 2]⟩,
                      ⟨(some 50), (.aaddr 4 1 (.t 5) (.c (.int .i64 2))), none, [0, 1, 2, 3]⟩,
                      ⟨none, (.store 1 (.t 50) (.t 49)), none, [4, 3, 0, 1, 2, 3]⟩])
                    (.region [
                      ⟨(some 51), (.aaddr 4 1 (.t 5) (.c (.int .i64 3))), none, []⟩,
                      ⟨(some 52), (.load false 1 (.t 51)), none, [0]⟩,
                      ⟨(some 53), (.move (.t 8)), none, []⟩,
                      ⟨(some 54), (.bin .xor (.t 52) (.t 53)), none, [1, 2]⟩,
                      ⟨(some 55), (.aaddr 4 1 (.t 5) (.c (.int .i64 3))), none, [0, 1, 2, 3]⟩,
                      ⟨none, (.store 1 (.t 55) (.t 54)), none, [4, 3, 0, 1, 2, 3]⟩]))))))))
      (.region [
        ⟨(some 18), (.move (.t 6)), none, []⟩,
        ⟨(some 19), (.bin .add (.t 18) (.c (.int .i64 2))), none, [0]⟩,
        ⟨(some 6), (.move (.t 19)), none, [1, 0, 1]⟩])))
/-- awardingbody/digest.Words -/
def c14 : CFun where
  np := 2
  deep := true
  res := [(.cell 4 true 4)]
  body :=
    (.seq
      (.region [
        ⟨(some 4), (.alloc (some 4) 4 [(.agg [(.int .u32 0), (.int .u32 0), (.int .u32 0), (.int .u32 0)])]), none, []⟩])
      (.seq
        (.region [
          ⟨(some 9), (.move (.t 0)), none, []⟩,
          ⟨(some 10), (.move (.t 1)), none, []⟩,
          ⟨(some 11), (.len false (.t 10)), none, [1]⟩,
          ⟨(some 12), (.conv .u32 (.t 11)), none, [2]⟩,
          ⟨(some 13), (.build [(.int .u32 0), (.int .u32 0), (.int .u32 0), (.int .u32 0)] [(0, 1, (.c (.int .u32 1702391089))), (1, 1, (.c (.int .u32 1651466610))), (2, 1, (.t 9)), (3, 1, (.t 12))]), none, [0, 3]⟩,
          ⟨(some 5), (.alloc (some 5) 4 [(.agg [(.int .u32 0), (.int .u32 0), (.int .u32 0), (.int .u32 0)])]), none, []⟩,
          ⟨none, (.store 4 (.t 5) (.t 13)), none, [5, 4, 0, 1, 2, 3, 4, 5]⟩])
        (.seq
          (.seq
            (.region [
              ⟨(some 6), (.move (.c (.int .i64 0))), none, []⟩])
            (.block 0 [4, 5]
              (.loop [1, 4, 5, 6] l14_0)))
          (.seq
            (.region [
              ⟨(some 56), (.aaddr 4 1 (.t 5) (.c (.int .i64 2))), none, []⟩,
              ⟨(some 57), (.load false 1 (.t 56)), none, [0]⟩,
              ⟨(some 58), (.bin .xor (.t 57) (.c (.int .u32 4294967295))), none, [1]⟩,
              ⟨(some 59), (.aaddr 4 1 (.t 5) (.c (.int .i64 2))), none, [0, 1, 2]⟩,
              ⟨none, (.store 1 (.t 59) (.t 58)), none, [3, 2, 0, 1, 2]⟩])
            (.seq
              (.region [
                ⟨(some 60), (.load true 4 (.t 5)), none, []⟩,
                ⟨(some 61), (.call 9 [(.t 60)]), none, [0]⟩,
                ⟨(some 62), (.call 9 [(.t 61)]), none, [1, 1]⟩,
                ⟨none, (.store 4 (.t 4) (.t 62)), none, [2, 2, 0, 1, 2]⟩])
              .ret)))))
def l15_0 : KC :=
  (.seq
    (.region [
      ⟨(some 11), (.bin .lss (.t 10) (.t 9)), none, []⟩])
    (.seq
      (.cond (.t 11)
        .skip
        (.exit 0))
      (.seq
        (.block 1 [0, 4, 5, 8, 9, 10]
          (.seq
            (.region [
              ⟨(some 12), (.iaddr 1 (.t 8) (.t 10)), none, []⟩,
              ⟨(some 13), (.load false 1 (.t 12)), none, [0]⟩,
              ⟨(some 7), (.move (.t 13)), none, [1, 0, 1]⟩])
            (.region [
              ⟨(some 14), (.move (.t 5)), none, []⟩,
              ⟨(some 15), (.move (.t 7)), none, []⟩,
              ⟨(some 16), (.conv .u64 (.t 15)), none, [1]⟩,
              ⟨(some 17), (.conv .u32 (.t 16)), none, [2]⟩,
              ⟨(some 18), (.move (.t 7)), none, []⟩,
              ⟨(some 19), (.conv .u64 (.t 18)), none, [4]⟩,
              ⟨(some 20), (.bin .shr (.t 19) (.c (.int .u64 32))), none, [5]⟩,
              ⟨(some 21), (.conv .u32 (.t 20)), none, [6]⟩,
              ⟨(some 22), (.lit 1 (.int .u32 0) 2 [(0, (.t 17)), (1, (.t 21))]), none, [3, 7]⟩,
              ⟨(some 23), (.append 1 4 (.t 14) (.t 22)), none, [0, 8]⟩,
              ⟨(some 5), (.move (.t 23)), none, [9, 9, 0, 1, 2, 3, 4, 5, 6, 7, 8, 9]⟩])))
        (.region [
          ⟨(some 24), (.bin .add (.t 10) (.c (.int .i64 1))), none, []⟩,
          ⟨(some 10), (.move (.t 24)), none, [0]⟩]))))
/-- awardingbody/digest.Numbers -/
def c15 : CFun where
  np := 2
  deep := true
  res := [(.cell 4 true 4)]
  body :=
    (.seq
      (.region [
        ⟨(some 4), (.alloc (some 4) 4 [(.agg [(.int .u32 0), (.int .u32 0), (.int .u32 0), (.int .u32 0)])]), none, []⟩])
      (.seq
        (.region [
          ⟨(some 5), (.move (.c (.list true true []))), none, []⟩])
        (.seq
          (.seq
            (.region [
              ⟨(some 8), (.move (.t 1)), none, []⟩,
              ⟨(some 9), (.len false (.t 8)), none, [0]⟩,
              ⟨(some 10), (.move (.c (.int .i64 0))), none, []⟩])
            (.block 0 [0, 4, 5]
              (.loop [0, 4, 5, 8, 9, 10] l15_0)))
          (.seq
            (.region [
              ⟨(some 25), (.move (.t 0)), none, []⟩,
              ⟨(some 26), (.move (.t 5)), none, []⟩,
              ⟨(some 27), (.call 14 [(.t 25), (.t 26)]), none, [0, 1]⟩,
              ⟨none, (.store 4 (.t 4) (.t 27)), none, [2, 2, 0, 1, 2]⟩])
            .ret))))
def l16_0 : KC :=
  (.seq
    (.seq
      (.region [
        ⟨(some 8), (.move (.t 6)), none, []⟩,
        ⟨(some 9), (.move (.t 1)), none, []⟩,
        ⟨(some 10), (.len false (.t 9)), none, [1]⟩,
        ⟨(some 11), (.bin .lss (.t 8) (.t 10)), none, [0, 2]⟩])
      (.cond (.t 11)
        .skip
        (.exit 0)))
    (.seq
      (.block 1 [0, 1, 4, 5, 6]
        (.seq
          (.region [
            ⟨(some 14), (.move (.t 1)), none, []⟩,
            ⟨(some 15), (.move (.t 6)), none, []⟩,
            ⟨(some 16), (.iaddr 1 (.t 14) (.t 15)), none, [0, 1]⟩,
            ⟨(some 17), (.load false 1 (.t 16)), none, [2]⟩,
            ⟨(some 18), (.conv .u64 (.t 17)), none, [3]⟩,
            ⟨(some 7), (.move (.t 18)), none, [4, 0, 1, 2, 3, 4]⟩])
          (.region [
            ⟨(some 19), (.move (.t 5)), none, []⟩,
            ⟨(some 20), (.move (.t 7)), none, []⟩,
            ⟨(some 21), (.conv .u32 (.t 20)), none, [1]⟩,
            ⟨(some 22), (.move (.t 7)), none, []⟩,
            ⟨(some 23), (.bin .shr (.t 22) (.c (.int .u64 32))), none, [3]⟩,
            ⟨(some 24), (.conv .u32 (.t 23)), none, [4]⟩,
            ⟨(some 25), (.lit 1 (.int .u32 0) 2 [(0, (.t 21)), (1, (.t 24))]), none, [2, 5]⟩,
            ⟨(some 26), (.append 1 4 (.t 19) (.t 25)), none, [0, 6]⟩,
            ⟨(some 5), (.move (.t 26)), none, [7, 7, 0, 1, 2, 3, 4, 5, 6, 7]⟩])))
      (.region [
        ⟨(some 12), (.move (.t 6)), none, []⟩,
        ⟨(some 13), (.bin .add (.t 12) (.c (.int .i64 1))), none, [0]⟩,
        ⟨(some 6), (.move (.t 13)), none, [1, 0, 1]⟩])))
/-- awardingbody/awardingbodyref39.Numbers -/
def c16 : CFun where
  np := 2
  deep := true
  res := [(.cell 4 true 4)]
  body :=
    (.seq
      (.region [
        ⟨(some 4), (.alloc (some 4) 4 [(.agg [(.int .u32 0), (.int .u32 0), (.int .u32 0), (.int .u32 0)])]), none, []⟩])
      (.seq
        (.region [
          ⟨(some 5), (.move (.c (.list true true []))), none, []⟩])
        (.seq
          (.seq
            (.region [
              ⟨(some 6), (.move (.c (.int .i64 0))), none, []⟩])
            (.block 0 [0, 4, 5]
              (.loop [0, 1, 4, 5, 6] l16_0)))
          (.seq
            (.region [
              ⟨(some 27), (.move (.t 0)), none, []⟩,
              ⟨(some 28), (.move (.t 5)), none, []⟩,
              ⟨(some 29), (.call 12 [(.t 27), (.t 28)]), none, [0, 1]⟩,
              ⟨none, (.store 4 (.t 4) (.t 29)), none, [2, 2, 0, 1, 2]⟩])
            .ret))))
@[reducible] def d17_0 : List KO := [
  ⟨(some 17), (.move (.t 5)), none, []⟩,
  ⟨(some 18), (.move (.t 6)), none, []⟩,
  ⟨(some 19), (.bin .quo (.t 18) (.c (.int .i64 4))), none, [1]⟩,
  ⟨(some 20), (.iaddr 1 (.t 17) (.t 19)), none, [0, 2]⟩,
  ⟨(some 21), (.load false 1 (.t 20)), none, [3]⟩,
  ⟨(some 22), (.move (.t 1)), none, []⟩,
  ⟨(some 23), (.move (.t 6)), none, []⟩,
  ⟨(some 24), (.indexS (.t 22) (.t 23)), none, [5, 6]⟩,
  ⟨(some 25), (.conv .u32 (.t 24)), none, [7]⟩,
  ⟨(some 26), (.move (.t 6)), none, []⟩,
  ⟨(some 27), (.bin .rem (.t 26) (.c (.int .i64 4))), none, [9]⟩,
  ⟨(some 28), (.bin .mul (.c (.int .i64 8)) (.t 27)), none, [10]⟩,
  ⟨(some 29), (.bin .shl (.t 25) (.t 28)), none, [8, 11]⟩,
  ⟨(some 30), (.bin .or (.t 21) (.t 29)), none, [4, 12]⟩,
  ⟨(some 31), (.iaddr 1 (.t 17) (.t 19)), none, [0, 2, 0, 1, 2, 3, 4, 5, 6, 7, 8, 9, 10, 11, 12, 13]⟩,
  ⟨none, (.store 1 (.t 31) (.t 30)), none, [14, 13, 0, 1, 2, 3, 4, 5, 6, 7, 8, 9, 10, 11, 12, 13]⟩]
def l17_0 : KC :=
  (.seq
    (.region [
      ⟨(some 15), (.bin .lss (.t 14) (.t 13)), none, []⟩])
    (.seq
      (.cond (.t 15)
        .skip
        (.exit 0))
      (.seq
        (.block 1 [0, 1, 4, 5, 13, 14]
          (.seq
            (.region [
              ⟨(some 16), (.move (.t 14)), none, []⟩,
              ⟨(some 6), (.move (.t 16)), none, [0, 0]⟩])
            (.dregion d17_0)))
        (.region [
          ⟨(some 32), (.bin .add (.t 14) (.c (.int .i64 1))), none, []⟩,
          ⟨(some 14), (.move (.t 32)), none, [0]⟩]))))
/-- awardingbody/digest.Bytes -/
def c17 : CFun where
  np := 2
  deep := true
  res := [(.cell 4 true 4)]
  body :=
    (.seq
      (.region [
        ⟨(some 4), (.alloc (some 4) 4 [(.agg [(.int .u32 0), (.int .u32 0), (.int .u32 0), (.int .u32 0)])]), none, []⟩])
      (.seq
        (.region [
          ⟨(some 7), (.move (.t 1)), none, []⟩,
          ⟨(some 8), (.len true (.t 7)), none, [0]⟩,
          ⟨(some 9), (.bin .add (.t 8) (.c (.int .i64 3))), none, [1]⟩,
          ⟨(some 10), (.bin .quo (.t 9) (.c (.int .i64 4))), none, [2]⟩,
          ⟨(some 11), (.mksl 1 4 (.int .u32 0) (.t 10) (.t 10)), none, [3, 3]⟩,
          ⟨(some 5), (.move (.t 11)), none, [4, 0, 1, 2, 3, 4]⟩])
        (.seq
          (.seq
            (.region [
              ⟨(some 12), (.move (.t 1)), none, []⟩,
              ⟨(some 13), (.len true (.t 12)), none, [0]⟩,
              ⟨(some 14), (.move (.c (.int .i64 0))), none, []⟩])
            (.block 0 [0, 1, 4, 5]
              (.loop [0, 1, 4, 5, 13, 14] l17_0)))
          (.seq
            (.region [
              ⟨(some 33), (.move (.t 0)), none, []⟩,
              ⟨(some 34), (.move (.t 5)), none, []⟩,
              ⟨(some 35), (.move (.t 1)), none, []⟩,
              ⟨(some 36), (.len true (.t 35)), none, [2]⟩,
              ⟨(some 37), (.conv .u32 (.t 36)), none, [3]⟩,
              ⟨(some 38), (.lit 1 (.int .u32 0) 1 [(0, (.t 37))]), none, [4]⟩,
              ⟨(some 39), (.append 1 4 (.t 34) (.t 38)), none, [1, 5]⟩,
              ⟨(some 40), (.call 14 [(.t 33), (.t 39)]), none, [0, 6, 6]⟩,
              ⟨none, (.store 4 (.t 4) (.t 40)), none, [7, 7, 0, 1, 2, 3, 4, 5, 6, 7]⟩])
            .ret))))
theorem rd17_0 (E : Env)  (st : St) : Run E (.dregion d17_0) st = regT (runOps E (Call E) d17_0 st) := run_dser (by decide +kernel) rfl st
@[reducible] def d18_0 : List KO := [
  ⟨(some 18), (.move (.t 5)), none, []⟩,
  ⟨(some 19), (.move (.t 6)), none, []⟩,
  ⟨(some 20), (.bin .quo (.t 19) (.c (.int .i64 4))), none, [1]⟩,
  ⟨(some 21), (.iaddr 1 (.t 18) (.t 20)), none, [0, 2]⟩,
  ⟨(some 22), (.load false 1 (.t 21)), none, [3]⟩,
  ⟨(some 23), (.move (.t 1)), none, []⟩,
  ⟨(some 24), (.move (.t 6)), none, []⟩,
  ⟨(some 25), (.indexS (.t 23) (.t 24)), none, [5, 6]⟩,
  ⟨(some 26), (.conv .u32 (.t 25)), none, [7]⟩,
  ⟨(some 27), (.move (.t 6)), none, []⟩,
  ⟨(some 28), (.bin .rem (.t 27) (.c (.int .i64 4))), none, [9]⟩,
  ⟨(some 29), (.bin .mul (.c (.int .i64 8)) (.t 28)), none, [10]⟩,
  ⟨(some 30), (.conv .u64 (.t 29)), none, [11]⟩,
  ⟨(some 31), (.bin .shl (.t 26) (.t 30)), none, [8, 12]⟩,
  ⟨(some 32), (.bin .or (.t 22) (.t 31)), none, [4, 13]⟩,
  ⟨(some 33), (.iaddr 1 (.t 18) (.t 20)), none, [0, 2, 0, 1, 2, 3, 4, 5, 6, 7, 8, 9, 10, 11, 12, 13, 14]⟩,
  ⟨none, (.store 1 (.t 33) (.t 32)), none, [15, 14, 0, 1, 2, 3, 4, 5, 6, 7, 8, 9, 10, 11, 12, 13, 14]⟩]
def l18_0 : KC :=
  (.seq
    (.seq
      (.region [
        ⟨(some 12), (.move (.t 6)), none, []⟩,
        ⟨(some 13), (.move (.t 1)), none, []⟩,
        ⟨(some 14), (.len true (.t 13)), none, [1]⟩,
        ⟨(some 15), (.bin .lss (.t 12) (.t 14)), none, [0, 2]⟩])
      (.cond (.t 15)
        .skip
        (.exit 0)))
    (.seq
      (.block 1 [0, 1, 4, 5, 6]
        (.dregion d18_0))
      (.region [
        ⟨(some 16), (.move (.t 6)), none, []⟩,
        ⟨(some 17), (.bin .add (.t 16) (.c (.int .i64 1))), none, [0]⟩,
        ⟨(some 6), (.move (.t 17)), none, [1, 0, 1]⟩])))
/-- awardingbody/awardingbodyref39.Bytes -/
def c18 : CFun where
  np := 2
  deep := true
  res := [(.cell 4 true 4)]
  body :=
    (.seq
      (.region [
        ⟨(some 4), (.alloc (some 4) 4 [(.agg [(.int .u32 0), (.int .u32 0), (.int .u32 0), (.int .u32 0)])]), none, []⟩])
      (.seq
        (.region [
          ⟨(some 7), (.move (.t 1)), none, []⟩,
          ⟨(some 8), (.len true (.t 7)), none, [0]⟩,
          ⟨(some 9), (.bin .add (.t 8) (.c (.int .i64 3))), none, [1]⟩,
          ⟨(some 10), (.bin .quo (.t 9) (.c (.int .i64 4))), none, [2]⟩,
          ⟨(some 11), (.mksl 1 4 (.int .u32 0) (.t 10) (.t 10)), none, [3, 3]⟩,
          ⟨(some 5), (.move (.t 11)), none, [4, 0, 1, 2, 3, 4]⟩])
        (.seq
          (.seq
            (.region [
              ⟨(some 6), (.move (.c (.int .i64 0))), none, []⟩])
            (.block 0 [0, 1, 4, 5]
              (.loop [0, 1, 4, 5, 6] l18_0)))
          (.seq
            (.region [
              ⟨(some 34), (.move (.t 0)), none, []⟩,
              ⟨(some 35), (.move (.t 5)), none, []⟩,
              ⟨(some 36), (.move (.t 1)), none, []⟩,
              ⟨(some 37), (.len true (.t 36)), none, [2]⟩,
              ⟨(some 38), (.conv .u32 (.t 37)), none, [3]⟩,
              ⟨(some 39), (.lit 1 (.int .u32 0) 1 [(0, (.t 38))]), none, [4]⟩,
              ⟨(some 40), (.append 1 4 (.t 35) (.t 39)), none, [1, 5]⟩,
              ⟨(some 41), (.call 12 [(.t 34), (.t 40)]), none, [0, 6, 6]⟩,
              ⟨none, (.store 4 (.t 4) (.t 41)), none, [7, 7, 0, 1, 2, 3, 4, 5, 6, 7]⟩])
            .ret))))
theorem rd18_0 (E : Env)  (st : St) : Run E (.dregion d18_0) st = regT (runOps E (Call E) d18_0 st) := run_dser (by decide +kernel) rfl st
@[reducible] def d19_0 : List KO := [
  ⟨(some 5), (.aslice 4 1 (.t 2) none none), none, []⟩,
  ⟨(some 6), (.aslice 4 1 (.t 3) none none), none, []⟩,
  ⟨(some 7), (.append 1 4 (.t 5) (.t 6)), none, [0, 1]⟩,
  ⟨(some 8), (.call 14 [(.c (.int .u32 1)), (.t 7)]), none, [2, 2]⟩,
  ⟨none, (.store 4 (.t 4) (.t 8)), none, [3, 3, 0, 1, 2, 3]⟩]
/-- awardingbody/digest.Join -/
def c19 : CFun where
  np := 2
  deep := true
  res := [(.cell 4 true 4)]
  body :=
    (.seq
      (.region [
        ⟨(some 2), (.box none 1 4 (.t 0)), none, []⟩,
        ⟨(some 3), (.box none 1 4 (.t 1)), none, []⟩,
        ⟨(some 4), (.alloc (some 4) 4 [(.agg [(.int .u32 0), (.int .u32 0), (.int .u32 0), (.int .u32 0)])]), none, []⟩])
      (.seq
        (.dregion d19_0)
        .ret))
theorem rd19_0 (E : Env) (h14 : deepB E 14 = true) (st : St) : Run E (.dregion d19_0) st = regT (runOps E (Call E) d19_0 st) := run_dser (by decide +kernel) (by simp [callsOf, d19_0, h14]) st
@[reducible] def d20_0 : List KO := [
  ⟨(some 5), (.aslice 4 1 (.t 2) none none), none, []⟩,
  ⟨(some 6), (.append 1 4 (.c (.list true true [])) (.t 5)), none, [0]⟩,
  ⟨(some 7), (.aslice 4 1 (.t 3) none none), none, []⟩,
  ⟨(some 8), (.append 1 4 (.t 6) (.t 7)), none, [1, 2, 1]⟩,
  ⟨(some 9), (.call 12 [(.c (.int .u32 1)), (.t 8)]), none, [3, 3]⟩,
  ⟨none, (.store 4 (.t 4) (.t 9)), none, [4, 4, 0, 1, 2, 3, 4]⟩]
/-- awardingbody/awardingbodyref39.Join -/
def c20 : CFun where
  np := 2
  deep := true
  res := [(.cell 4 true 4)]
  body :=
    (.seq
      (.region [
        ⟨(some 2), (.box none 1 4 (.t 0)), none, []⟩,
        ⟨(some 3), (.box none 1 4 (.t 1)), none, []⟩,
        ⟨(some 4), (.alloc (some 4) 4 [(.agg [(.int .u32 0), (.int .u32 0), (.int .u32 0), (.int .u32 0)])]), none, []⟩])
      (.seq
        (.dregion d20_0)
        .ret))
-- d20_0: not quiet
/-- math/bits.RotateLeft32 -/
def c25 : CFun where
  np := 2
  deep := true
  res := [(.t 4)]
  body :=
    (.seq
      (.region [
        ⟨(some 4), (.move (.c (.int .u32 0))), none, []⟩])
      (.seq
        (.region [
          ⟨(some 6), (.move (.t 1)), none, []⟩,
          ⟨(some 7), (.conv .u64 (.t 6)), none, [0]⟩,
          ⟨(some 8), (.bin .and (.t 7) (.c (.int .u64 31))), none, [1]⟩,
          ⟨(some 5), (.move (.t 8)), none, [2, 0, 1, 2]⟩])
        (.seq
          (.region [
            ⟨(some 9), (.move (.t 0)), none, []⟩,
            ⟨(some 10), (.move (.t 5)), none, []⟩,
            ⟨(some 11), (.bin .shl (.t 9) (.t 10)), none, [0, 1]⟩,
            ⟨(some 12), (.move (.t 0)), none, []⟩,
            ⟨(some 13), (.move (.t 5)), none, []⟩,
            ⟨(some 14), (.bin .sub (.c (.int .u64 32)) (.t 13)), none, [4]⟩,
            ⟨(some 15), (.bin .shr (.t 12) (.t 14)), none, [3, 5]⟩,
            ⟨(some 16), (.bin .or (.t 11) (.t 15)), none, [2, 6]⟩,
            ⟨(some 4), (.move (.t 16)), none, [7, 0, 1, 2, 3, 4, 5, 6, 7]⟩])
          .ret)))
/-- awardingbody/awardingbodyref39.rotate -/
def c26 : CFun where
  np := 2
  deep := true
  res := [(.t 4)]
  body :=
    (.seq
      (.region [
        ⟨(some 4), (.move (.c (.int .u32 0))), none, []⟩])
      (.seq
        (.region [
          ⟨(some 5), (.move (.t 0)), none, []⟩,
          ⟨(some 6), (.move (.t 1)), none, []⟩,
          ⟨(some 7), (.bin .shl (.t 5) (.t 6)), none, [0, 1]⟩,
          ⟨(some 8), (.move (.t 0)), none, []⟩,
          ⟨(some 9), (.move (.t 1)), none, []⟩,
          ⟨(some 10), (.bin .sub (.c (.int .u64 32)) (.t 9)), none, [4]⟩,
          ⟨(some 11), (.bin .shr (.t 8) (.t 10)), none, [3, 5]⟩,
          ⟨(some 12), (.bin .or (.t 7) (.t 11)), none, [2, 6]⟩,
          ⟨(some 4), (.move (.t 12)), none, [7, 0, 1, 2, 3, 4, 5, 6, 7]⟩])
        .ret))
def l21_1 : KC :=
  (.seq
    (.seq
      (.region [
        ⟨(some 11), (.move (.t 5)), none, []⟩,
        ⟨(some 12), (.bin .geq (.t 11) (.c (.int .i64 0))), none, [0]⟩])
      (.cond (.t 12)
        .skip
        (.exit 2)))
    (.seq
      (.block 3 [1, 3, 4, 5]
        (.seq
          (.region [
            ⟨(some 15), (.move (.t 4)), none, []⟩,
            ⟨(some 16), (.aaddr 4 1 (.t 1) (.t 15)), none, [0]⟩,
            ⟨(some 17), (.load false 1 (.t 16)), none, [1]⟩,
            ⟨(some 18), (.move (.t 5)), none, []⟩,
            ⟨(some 19), (.conv .u64 (.t 18)), none, [3]⟩,
            ⟨(some 20), (.bin .shr (.t 17) (.t 19)), none, [2, 4]⟩,
            ⟨(some 21), (.bin .and (.t 20) (.c (.int .u32 15))), none, [5]⟩,
            ⟨(some 22), (.conv .u8 (.t 21)), none, [6]⟩,
            ⟨(some 6), (.move (.t 22)), none, [7, 0, 1, 2, 3, 4, 5, 6, 7]⟩])
          (.seq
            (.region [
              ⟨(some 23), (.move (.t 6)), none, []⟩,
              ⟨(some 24), (.bin .lss (.t 23) (.c (.int .u8 10))), none, [0]⟩])
            (.cond (.t 24)
              (.region [
                ⟨(some 25), (.move (.t 3)), none, []⟩,
                ⟨(some 26), (.move (.t 6)), none, []⟩,
                ⟨(some 27), (.bin .add (.c (.int .u8 48)) (.t 26)), none, [1]⟩,
                ⟨(some 28), (.lit 1 (.int .u8 0) 1 [(0, (.t 27))]), none, [2]⟩,
                ⟨(some 29), (.append 1 1 (.t 25) (.t 28)), none, [0, 3]⟩,
                ⟨(some 3), (.move (.t 29)), none, [4, 4, 0, 1, 2, 3, 4]⟩])
              (.region [
                ⟨(some 30), (.move (.t 3)), none, []⟩,
                ⟨(some 31), (.move (.t 6)), none, []⟩,
                ⟨(some 32), (.bin .add (.c (.int .u8 97)) (.t 31)), none, [1]⟩,
                ⟨(some 33), (.bin .sub (.t 32) (.c (.int .u8 10))), none, [2]⟩,
                ⟨(some 34), (.lit 1 (.int .u8 0) 1 [(0, (.t 33))]), none, [3]⟩,
                ⟨(some 35), (.append 1 1 (.t 30) (.t 34)), none, [0, 4]⟩,
                ⟨(some 3), (.move (.t 35)), none, [5, 5, 0, 1, 2, 3, 4, 5]⟩])))))
      (.region [
        ⟨(some 13), (.move (.t 5)), none, []⟩,
        ⟨(some 14), (.bin .sub (.t 13) (.c (.int .i64 4))), none, [0]⟩,
        ⟨(some 5), (.move (.t 14)), none, [1, 0, 1]⟩])))
def l21_0 : KC :=
  (.seq
    (.seq
      (.region [
        ⟨(some 7), (.move (.t 4)), none, []⟩,
        ⟨(some 8), (.bin .lss (.t 7) (.c (.int .i64 4))), none, [0]⟩])
      (.cond (.t 8)
        .skip
        (.exit 0)))
    (.seq
      (.block 1 [1, 3, 4]
        (.seq
          (.region [
            ⟨(some 5), (.move (.c (.int .i64 28))), none, []⟩])
          (.block 2 [1, 3, 4]
            (.loop [1, 3, 4, 5] l21_1))))
      (.region [
        ⟨(some 9), (.move (.t 4)), none, []⟩,
        ⟨(some 10), (.bin .add (.t 9) (.c (.int .i64 1))), none, [0]⟩,
        ⟨(some 4), (.move (.t 10)), none, [1, 0, 1]⟩])))
/-- awardingbody/awardingbodyref39.Text -/
def c21 : CFun where
  np := 1
  deep := true
  res := [(.t 2)]
  body :=
    (.seq
      (.region [
        ⟨(some 1), (.box (some 1) 4 1 (.t 0)), none, []⟩,
        ⟨(some 2), (.move (.c (.str []))), none, []⟩])
      (.seq
        (.region [
          ⟨(some 3), (.move (.c (.list true true []))), none, []⟩])
        (.seq
          (.seq
            (.region [
              ⟨(some 4), (.move (.c (.int .i64 0))), none, []⟩])
            (.block 0 [3]
              (.loop [1, 3, 4] l21_0)))
          (.seq
            (.region [
              ⟨(some 36), (.move (.t 3)), none, []⟩,
              ⟨(some 37), (.b2s (.t 36)), none, [0]⟩,
              ⟨(some 2), (.move (.t 37)), none, [1, 0, 1]⟩])
            .ret))))
end Go.Proofs.Ytkafliflpplpeaa.Sim
