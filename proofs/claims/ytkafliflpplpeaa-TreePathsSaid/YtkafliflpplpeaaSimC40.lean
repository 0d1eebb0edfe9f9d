/- Functions of the program as the small machine's code. Written by a program of this project (wip/tools/simpieces.py). No conditions. -/
import Derived.Test.YtkafliflpplpeaaSimB2
namespace Go.Proofs.Ytkafliflpplpeaa.Sim
set_option linter.unusedSimpArgs false
set_option linter.unusedVariables false
open Go
set_option maxRecDepth 100000
/-- awardingbody/awardingbodymark.Light -/
def c166 : CFun where
  np := 1
  deep := true
  res := [(.t 2)]
  body :=
    (.seq
      (.region [
        ⟨(some 2), (.move (.c (.bool false))), none, []⟩])
      (.seq
        (.region [
          ⟨(some 3), (.move (.t 0)), none, []⟩,
          ⟨(some 4), (.len false (.t 3)), none, [0]⟩,
          ⟨(some 5), (.bin .leq (.t 4) (.c (.int .i64 600))), none, [1]⟩,
          ⟨(some 2), (.move (.t 5)), none, [2, 0, 1, 2]⟩])
        .ret))
/-- awardingbody/awardingbodymark.Roll -/
def c168 : CFun where
  np := 1
  deep := false
  res := [(.t 2)]
  body :=
    (.seq
      (.region [
        ⟨(some 2), (.move (.c .nilp)), none, []⟩])
      (.seq
        (.region [
          ⟨(some 3), (.move (.t 0)), none, []⟩,
          ⟨(some 4), (.build [(.list true true []), (.int .i64 0)] [(0, 1, (.t 3))]), none, [0]⟩,
          ⟨(some 5), (.box none 2 1 (.t 4)), none, [1]⟩,
          ⟨(some 2), (.move (.t 5)), none, [2, 0, 1, 2]⟩])
        .ret))
@[reducible] def d178_0 : List KO := [
  ⟨(some 6), (.move (.t 0)), none, []⟩,
  ⟨(some 7), (.nilchk (.t 6)), none, [0]⟩,
  ⟨(some 8), (.faddr 1 (.t 7)), none, [1]⟩,
  ⟨(some 9), (.load false 1 (.t 8)), none, [2]⟩,
  ⟨(some 10), (.move (.t 0)), none, []⟩,
  ⟨(some 11), (.nilchk (.t 10)), none, [4]⟩,
  ⟨(some 12), (.faddr 0 (.t 11)), none, [5]⟩,
  ⟨(some 13), (.load false 1 (.t 12)), none, [6]⟩,
  ⟨(some 14), (.len false (.t 13)), none, [7]⟩,
  ⟨(some 15), (.bin .geq (.t 9) (.t 14)), none, [3, 8]⟩,
  ⟨(some 16), (.move (.t 15)), none, [9]⟩,
  ⟨(some 17), (.move (.t 1)), (some (16, false)), [10]⟩,
  ⟨(some 18), (.bin .lss (.t 17) (.c (.int .i64 1))), (some (16, false)), [11, 10]⟩,
  ⟨(some 19), (.pick (.t 16) (.c (.bool true)) (.t 18)), none, [10, 12]⟩]
@[reducible] def d178_1 : List KO := [
  ⟨(some 20), (.move (.t 0)), none, []⟩,
  ⟨(some 21), (.nilchk (.t 20)), none, [0]⟩,
  ⟨(some 22), (.faddr 0 (.t 21)), none, [1]⟩,
  ⟨(some 23), (.load false 1 (.t 22)), none, [2]⟩,
  ⟨(some 24), (.move (.t 0)), none, []⟩,
  ⟨(some 25), (.nilchk (.t 24)), none, [4]⟩,
  ⟨(some 26), (.faddr 1 (.t 25)), none, [5]⟩,
  ⟨(some 27), (.load false 1 (.t 26)), none, [6]⟩,
  ⟨(some 28), (.iaddr 1 (.t 23) (.t 27)), none, [3, 7]⟩,
  ⟨(some 29), (.load false 1 (.t 28)), none, [8]⟩,
  ⟨(some 30), (.move (.t 1)), none, []⟩,
  ⟨(some 31), (.bin .rem (.t 29) (.t 30)), none, [9, 10]⟩,
  ⟨(some 5), (.move (.t 31)), none, [11, 0, 1, 2, 3, 4, 5, 6, 7, 8, 9, 10, 11]⟩]
/-- (*awardingbody/awardingbodymark.Dice).Next -/
def c178 : CFun where
  np := 2
  deep := false
  res := [(.t 4)]
  body :=
    (.seq
      (.region [
        ⟨(some 4), (.move (.c (.int .i64 0))), none, []⟩])
      (.seq
        (.seq
          (.dregion d178_0)
          (.cond (.t 19)
            (.seq
              (.region [
                ⟨(some 4), (.move (.c (.int .i64 0))), none, []⟩])
              .ret)
            .skip))
        (.seq
          (.dregion d178_1)
          (.seq
            (.region [
              ⟨(some 32), (.move (.t 0)), none, []⟩,
              ⟨(some 33), (.nilchk (.t 32)), none, [0]⟩,
              ⟨(some 34), (.faddr 1 (.t 33)), none, [1]⟩,
              ⟨(some 35), (.load false 1 (.t 34)), none, [2]⟩,
              ⟨(some 36), (.bin .add (.t 35) (.c (.int .i64 1))), none, [3]⟩,
              ⟨(some 37), (.nilchk (.t 32)), none, [0, 0, 1, 2, 3, 4]⟩,
              ⟨(some 38), (.faddr 1 (.t 37)), none, [5, 0, 1, 2, 3, 4]⟩,
              ⟨none, (.store 1 (.t 38) (.t 36)), none, [6, 4, 0, 1, 2, 3, 4]⟩])
            (.seq
              (.seq
                (.region [
                  ⟨(some 39), (.move (.t 5)), none, []⟩,
                  ⟨(some 40), (.bin .lss (.t 39) (.c (.int .i64 0))), none, [0]⟩])
                (.cond (.t 40)
                  (.region [
                    ⟨(some 41), (.move (.t 5)), none, []⟩,
                    ⟨(some 42), (.move (.t 1)), none, []⟩,
                    ⟨(some 43), (.bin .add (.t 41) (.t 42)), none, [0, 1]⟩,
                    ⟨(some 5), (.move (.t 43)), none, [2, 0, 1, 2]⟩])
                  .skip))
              (.seq
                (.region [
                  ⟨(some 44), (.move (.t 5)), none, []⟩,
                  ⟨(some 4), (.move (.t 44)), none, [0, 0]⟩])
                .ret))))))
theorem rd178_0 (E : Env) (st : St) : Run E (.dregion d178_0) st = regT (runOps E (Call E) d178_0 st) := run_dpure (by decide +kernel) rfl st
theorem rd178_1 (E : Env) (st : St) : Run E (.dregion d178_1) st = regT (runOps E (Call E) d178_1 st) := run_dpure (by decide +kernel) rfl st
@[reducible] def d231_0 : List KO := [
  ⟨(some 55), (.move (.t 12)), none, []⟩,
  ⟨(some 56), (.bin .neq (.t 55) (.c (.int .i64 0))), none, [0]⟩,
  ⟨(some 57), (.move (.t 56)), none, [1]⟩,
  ⟨(some 58), (.move (.t 14)), (some (57, false)), [2]⟩,
  ⟨(some 59), (.bin .neq (.t 58) (.c (.int .i64 0))), (some (57, false)), [3, 2]⟩,
  ⟨(some 60), (.pick (.t 57) (.c (.bool true)) (.t 59)), none, [2, 4]⟩,
  ⟨(some 61), (.move (.t 60)), none, [5, 2]⟩,
  ⟨(some 62), (.load true 4 (.t 13)), (some (61, false)), [6]⟩,
  ⟨(some 63), (.move (.t 9)), (some (61, false)), [6]⟩,
  ⟨(some 64), (.call 239 [(.t 63)]), (some (61, false)), [8, 6, 6]⟩,
  ⟨(some 65), (.eqv true true [.i, .i, .i, .i] (.t 62) (.t 64)), (some (61, false)), [7, 9, 6]⟩,
  ⟨(some 66), (.pick (.t 61) (.c (.bool true)) (.t 65)), none, [6, 10]⟩,
  ⟨(some 67), (.move (.t 66)), none, [11, 9]⟩,
  ⟨(some 68), (.move (.t 11)), (some (67, false)), [12]⟩,
  ⟨(some 69), (.len false (.t 68)), (some (67, false)), [13, 12]⟩,
  ⟨(some 70), (.bin .gtr (.t 69) (.c (.int .i64 6))), (some (67, false)), [14, 12]⟩,
  ⟨(some 71), (.pick (.t 67) (.c (.bool true)) (.t 70)), none, [12, 15]⟩]
@[reducible] def d231_1 : List KO := [
  ⟨(some 100), (.load true 4 (.t 16)), none, []⟩,
  ⟨(some 101), (.load true 4 (.t 13)), none, []⟩,
  ⟨(some 102), (.eqv true true [.i, .i, .i, .i] (.t 100) (.t 101)), none, [0, 1]⟩,
  ⟨(some 103), (.move (.t 102)), none, [2]⟩,
  ⟨(some 104), (.load true 4 (.t 18)), (some (103, false)), [3]⟩,
  ⟨(some 105), (.move (.t 9)), (some (103, false)), [3]⟩,
  ⟨(some 106), (.call 242 [(.t 105)]), (some (103, false)), [5, 3, 3]⟩,
  ⟨(some 107), (.eqv false true [.i, .i, .i, .i] (.t 104) (.t 106)), (some (103, false)), [4, 6, 3]⟩,
  ⟨(some 108), (.pick (.t 103) (.c (.bool true)) (.t 107)), none, [3, 7]⟩,
  ⟨(some 109), (.move (.t 108)), none, [8, 6]⟩,
  ⟨(some 110), (.call 234 []), (some (109, true)), [9, 9]⟩,
  ⟨(some 111), (.pick (.t 109) (.t 110) (.c (.bool false))), none, [9, 10]⟩,
  ⟨(some 6), (.move (.t 111)), none, [11, 10, 0, 1, 2, 3, 4, 5, 6, 7, 8, 9, 10, 11]⟩]
/-- awardingbody/awardingbodylaw40.TreePaths -/
def c231 : CFun where
  np := 3
  deep := true
  res := [(.t 6)]
  body :=
    (.seq
      (.region [
        ⟨(some 6), (.move (.c (.bool false))), none, []⟩])
      (.seq
        (.seq
          (.region [
            ⟨(some 20), (.move (.t 0)), none, []⟩,
            ⟨(some 21), (.call 166 [(.t 20)]), none, [0]⟩,
            ⟨(some 22), (.un .not (.t 21)), none, [1]⟩])
          (.cond (.t 22)
            (.seq
              (.region [
                ⟨(some 23), (.call 234 []), none, []⟩,
                ⟨(some 6), (.move (.t 23)), none, [0, 0, 0]⟩])
              .ret)
            .skip))
        (.seq
          (.region [
            ⟨(some 24), (.move (.t 0)), none, []⟩,
            ⟨(some 25), (.call 168 [(.t 24)]), none, [0]⟩,
            ⟨(some 7), (.move (.t 25)), none, [1, 1, 0, 1]⟩])
          (.seq
            (.region [
              ⟨(some 26), (.move (.t 1)), none, []⟩,
              ⟨(some 27), (.bin .rem (.t 26) (.c (.int .u8 40))), none, [0]⟩,
              ⟨(some 28), (.conv .i64 (.t 27)), none, [1]⟩,
              ⟨(some 29), (.bin .add (.c (.int .i64 1)) (.t 28)), none, [2]⟩,
              ⟨(some 8), (.move (.t 29)), none, [3, 0, 1, 2, 3]⟩])
            (.seq
              (.region [
                ⟨(some 30), (.move (.t 7)), none, []⟩,
                ⟨(some 31), (.move (.t 8)), none, []⟩,
                ⟨(some 32), (.call 235 [(.t 30), (.t 31)]), none, [0, 1]⟩,
                ⟨(some 9), (.move (.t 32)), none, [2, 2, 0, 1, 2]⟩])
              (.seq
                (.region [
                  ⟨(some 33), (.move (.t 2)), none, []⟩,
                  ⟨(some 34), (.conv .i64 (.t 33)), none, [0]⟩,
                  ⟨(some 35), (.move (.t 8)), none, []⟩,
                  ⟨(some 36), (.bin .rem (.t 34) (.t 35)), none, [1, 2]⟩,
                  ⟨(some 10), (.move (.t 36)), none, [3, 0, 1, 2, 3]⟩])
                (.seq
                  (.region [
                    ⟨(some 38), (.move (.t 9)), none, []⟩,
                    ⟨(some 39), (.move (.t 10)), none, []⟩,
                    ⟨(some 40), (.call 236 [(.t 38), (.t 39)]), none, [0, 1]⟩,
                    ⟨(some 37), (.move (.t 40)), none, [2]⟩,
                    ⟨(some 41), (.extract (.t 37) 0), none, [3]⟩,
                    ⟨(some 42), (.extract (.t 37) 1), none, [3]⟩,
                    ⟨(some 11), (.move (.t 41)), none, [4, 2, 0, 1, 2, 3, 4]⟩,
                    ⟨(some 12), (.move (.t 42)), none, [5, 6, 0, 1, 2, 3, 4, 5, 6]⟩])
                  (.seq
                    (.region [
                      ⟨(some 44), (.move (.t 9)), none, []⟩,
                      ⟨(some 45), (.move (.t 10)), none, []⟩,
                      ⟨(some 46), (.iaddr 4 (.t 44) (.t 45)), none, [0, 1]⟩,
                      ⟨(some 47), (.load true 4 (.t 46)), none, [2]⟩,
                      ⟨(some 48), (.call 238 [(.t 47)]), none, [3]⟩,
                      ⟨(some 49), (.move (.t 10)), none, []⟩,
                      ⟨(some 50), (.move (.t 8)), none, []⟩,
                      ⟨(some 51), (.move (.t 11)), none, []⟩,
                      ⟨(some 52), (.call 237 [(.t 48), (.t 49), (.t 50), (.t 51)]), none, [4, 5, 6, 7, 4]⟩,
                      ⟨(some 43), (.move (.t 52)), none, [8]⟩,
                      ⟨(some 53), (.extract (.t 43) 0), none, [9]⟩,
                      ⟨(some 54), (.extract (.t 43) 1), none, [9]⟩,
                      ⟨(some 13), (.alloc (some 13) 4 [(.agg [(.int .u32 0), (.int .u32 0), (.int .u32 0), (.int .u32 0)])]), none, []⟩,
                      ⟨none, (.store 4 (.t 13) (.t 53)), none, [12, 10, 8, 0, 1, 2, 3, 4, 5, 6, 7, 8, 9, 10, 12]⟩,
                      ⟨(some 14), (.move (.t 54)), none, [11, 13, 0, 1, 2, 3, 4, 5, 6, 7, 8, 9, 10, 11, 12, 13]⟩])
                    (.seq
                      (.seq
                        (.dregion d231_0)
                        (.cond (.t 71)
                          (.seq
                            (.region [
                              ⟨(some 6), (.move (.c (.bool false))), none, []⟩])
                            .ret)
                          .skip))
                      (.seq
                        (.region [
                          ⟨(some 72), (.move (.t 9)), none, []⟩,
                          ⟨(some 73), (.move (.t 10)), none, []⟩,
                          ⟨(some 74), (.iaddr 4 (.t 72) (.t 73)), none, [0, 1]⟩,
                          ⟨(some 75), (.load true 4 (.t 74)), none, [2]⟩,
                          ⟨(some 15), (.alloc (some 15) 4 [(.agg [(.int .u32 0), (.int .u32 0), (.int .u32 0), (.int .u32 0)])]), none, []⟩,
                          ⟨none, (.store 4 (.t 15) (.t 75)), none, [4, 3, 0, 1, 2, 3, 4]⟩])
                        (.seq
                          (.region [
                            ⟨(some 76), (.aaddr 4 1 (.t 15) (.c (.int .i64 0))), none, []⟩,
                            ⟨(some 77), (.load false 1 (.t 76)), none, [0]⟩,
                            ⟨(some 78), (.bin .add (.t 77) (.c (.int .u32 1))), none, [1]⟩,
                            ⟨(some 79), (.aaddr 4 1 (.t 15) (.c (.int .i64 0))), none, [0, 1, 2]⟩,
                            ⟨none, (.store 1 (.t 79) (.t 78)), none, [3, 2, 0, 1, 2]⟩])
                          (.seq
                            (.region [
                              ⟨(some 81), (.load true 4 (.t 15)), none, []⟩,
                              ⟨(some 82), (.call 238 [(.t 81)]), none, [0]⟩,
                              ⟨(some 83), (.move (.t 10)), none, []⟩,
                              ⟨(some 84), (.move (.t 8)), none, []⟩,
                              ⟨(some 85), (.move (.t 11)), none, []⟩,
                              ⟨(some 86), (.call 237 [(.t 82), (.t 83), (.t 84), (.t 85)]), none, [1, 2, 3, 4, 1]⟩,
                              ⟨(some 80), (.move (.t 86)), none, [5]⟩,
                              ⟨(some 87), (.extract (.t 80) 0), none, [6]⟩,
                              ⟨(some 88), (.extract (.t 80) 1), none, [6]⟩,
                              ⟨(some 16), (.alloc (some 16) 4 [(.agg [(.int .u32 0), (.int .u32 0), (.int .u32 0), (.int .u32 0)])]), none, []⟩,
                              ⟨none, (.store 4 (.t 16) (.t 87)), none, [9, 7, 5, 0, 1, 2, 3, 4, 5, 6, 7, 9]⟩,
                              ⟨(some 17), (.move (.t 88)), none, [8, 10, 0, 1, 2, 3, 4, 5, 6, 7, 8, 9, 10]⟩])
                            (.seq
                              (.seq
                                (.region [
                                  ⟨(some 89), (.move (.t 17)), none, []⟩,
                                  ⟨(some 90), (.bin .neq (.t 89) (.c (.int .i64 0))), none, [0]⟩])
                                (.cond (.t 90)
                                  (.seq
                                    (.region [
                                      ⟨(some 6), (.move (.c (.bool false))), none, []⟩])
                                    .ret)
                                  .skip))
                              (.seq
                                (.region [
                                  ⟨(some 92), (.load true 4 (.t 15)), none, []⟩,
                                  ⟨(some 93), (.call 241 [(.t 92)]), none, [0]⟩,
                                  ⟨(some 94), (.move (.t 10)), none, []⟩,
                                  ⟨(some 95), (.move (.t 8)), none, []⟩,
                                  ⟨(some 96), (.move (.t 11)), none, []⟩,
                                  ⟨(some 97), (.call 240 [(.t 93), (.t 94), (.t 95), (.t 96)]), none, [1, 2, 3, 4, 1]⟩,
                                  ⟨(some 91), (.move (.t 97)), none, [5]⟩,
                                  ⟨(some 98), (.extract (.t 91) 0), none, [6]⟩,
                                  ⟨(some 99), (.extract (.t 91) 1), none, [6]⟩,
                                  ⟨(some 18), (.alloc (some 18) 4 [(.agg [(.int .u32 0), (.int .u32 0), (.int .u32 0), (.int .u32 0)])]), none, []⟩,
                                  ⟨none, (.store 4 (.t 18) (.t 98)), none, [9, 7, 5, 0, 1, 2, 3, 4, 5, 6, 7, 9]⟩,
                                  ⟨(some 19), (.move (.t 99)), none, [8, 10, 0, 1, 2, 3, 4, 5, 6, 7, 8, 9, 10]⟩])
                                (.seq
                                  (.dregion d231_1)
                                  .ret)))))))))))))))
theorem rd231_0 (E : Env) (h239 : deepB E 239 = true) (st : St) : Run E (.dregion d231_0) st = regT (runOps E (Call E) d231_0 st) := run_dpure (by decide +kernel) (by simp [callsOf, d231_0, h239]) st
theorem rd231_1 (E : Env) (h234 : deepB E 234 = true) (h242 : deepB E 242 = true) (st : St) : Run E (.dregion d231_1) st = regT (runOps E (Call E) d231_1 st) := run_dpure (by decide +kernel) (by simp [callsOf, d231_1, h234, h242]) st
@[reducible] def d232_0 : List KO := [
  ⟨(some 35), (.move (.t 7)), none, []⟩,
  ⟨(some 36), (.bin .geq (.t 35) (.c (.int .i64 1))), none, [0]⟩,
  ⟨(some 37), (.move (.t 36)), none, [1]⟩,
  ⟨(some 38), (.move (.t 7)), (some (37, true)), [2]⟩,
  ⟨(some 39), (.move (.t 5)), (some (37, true)), [2]⟩,
  ⟨(some 40), (.bin .lss (.t 38) (.t 39)), (some (37, true)), [3, 4, 2]⟩,
  ⟨(some 41), (.pick (.t 37) (.t 40) (.c (.bool false))), none, [2, 5]⟩,
  ⟨(some 42), (.move (.t 41)), none, [6, 2]⟩,
  ⟨(some 43), (.move (.t 7)), (some (42, true)), [7]⟩,
  ⟨(some 44), (.bin .mul (.c (.int .i64 2)) (.t 43)), (some (42, true)), [8, 7]⟩,
  ⟨(some 45), (.move (.t 5)), (some (42, true)), [7]⟩,
  ⟨(some 46), (.bin .geq (.t 44) (.t 45)), (some (42, true)), [9, 10, 7]⟩,
  ⟨(some 47), (.pick (.t 42) (.t 46) (.c (.bool false))), none, [7, 11]⟩,
  ⟨(some 48), (.move (.t 47)), none, [12, 7]⟩,
  ⟨(some 49), (.move (.t 8)), (some (48, true)), [13]⟩,
  ⟨(some 50), (.pick (.t 48) (.t 49) (.c (.bool false))), none, [13, 14]⟩,
  ⟨(some 51), (.move (.t 50)), none, [15, 13]⟩,
  ⟨(some 52), (.move (.t 6)), (some (51, true)), [16]⟩,
  ⟨(some 53), (.call 239 [(.t 52)]), (some (51, true)), [17, 16, 16]⟩,
  ⟨(some 54), (.move (.t 6)), (some (51, true)), [16]⟩,
  ⟨(some 55), (.move (.t 7)), (some (51, true)), [16]⟩,
  ⟨(some 56), (.slice (some 4) (.t 54) none (some (.t 55))), (some (51, true)), [19, 20, 16]⟩,
  ⟨(some 57), (.call 239 [(.t 56)]), (some (51, true)), [21, 18, 16]⟩,
  ⟨(some 58), (.move (.t 6)), (some (51, true)), [16]⟩,
  ⟨(some 59), (.move (.t 7)), (some (51, true)), [16]⟩,
  ⟨(some 60), (.slice (some 4) (.t 58) (some (.t 59)) none), (some (51, true)), [23, 24, 16]⟩,
  ⟨(some 61), (.call 239 [(.t 60)]), (some (51, true)), [25, 22, 16]⟩,
  ⟨(some 62), (.call 19 [(.t 57), (.t 61)]), (some (51, true)), [22, 26, 26, 16]⟩,
  ⟨(some 63), (.eqv false true [.i, .i, .i, .i] (.t 53) (.t 62)), (some (51, true)), [18, 27, 16]⟩,
  ⟨(some 64), (.pick (.t 51) (.t 63) (.c (.bool false))), none, [16, 28]⟩,
  ⟨(some 65), (.move (.t 64)), none, [29, 27]⟩,
  ⟨(some 66), (.move (.t 6)), (some (65, true)), [30]⟩,
  ⟨(some 67), (.slice (some 4) (.t 66) none (some (.c (.int .i64 1)))), (some (65, true)), [31, 30]⟩,
  ⟨(some 68), (.call 239 [(.t 67)]), (some (65, true)), [32, 30, 30]⟩,
  ⟨(some 69), (.move (.t 6)), (some (65, true)), [30]⟩,
  ⟨(some 70), (.iaddr 4 (.t 69) (.c (.int .i64 0))), (some (65, true)), [34, 30]⟩,
  ⟨(some 71), (.load true 4 (.t 70)), (some (65, true)), [35, 30]⟩,
  ⟨(some 72), (.call 238 [(.t 71)]), (some (65, true)), [36, 33, 30]⟩,
  ⟨(some 73), (.eqv false true [.i, .i, .i, .i] (.t 68) (.t 72)), (some (65, true)), [33, 37, 30]⟩,
  ⟨(some 74), (.pick (.t 65) (.t 73) (.c (.bool false))), none, [30, 38]⟩,
  ⟨(some 75), (.move (.t 74)), none, [39, 37]⟩,
  ⟨(some 76), (.call 239 [(.c (.list true true []))]), (some (75, true)), [40, 40]⟩,
  ⟨(some 77), (.call 14 [(.c (.int .u32 2)), (.c (.list true true []))]), (some (75, true)), [41, 40]⟩,
  ⟨(some 78), (.eqv false true [.i, .i, .i, .i] (.t 76) (.t 77)), (some (75, true)), [41, 42, 40]⟩,
  ⟨(some 79), (.pick (.t 75) (.t 78) (.c (.bool false))), none, [40, 43]⟩,
  ⟨(some 80), (.move (.t 79)), none, [44, 42]⟩,
  ⟨(some 81), (.call 234 []), (some (80, true)), [45, 45]⟩,
  ⟨(some 82), (.pick (.t 80) (.t 81) (.c (.bool false))), none, [45, 46]⟩,
  ⟨(some 4), (.move (.t 82)), none, [47, 46, 0, 1, 2, 3, 4, 5, 6, 7, 8, 9, 10, 11, 12, 13, 14, 15, 16, 17, 18, 19, 20, 21, 22, 23, 24, 25, 26, 27, 28, 29, 30, 31, 32, 33, 34, 35, 36, 37, 38, 39, 40, 41, 42, 43, 44, 45, 46, 47]⟩]
def l232_0 : KC :=
  (.seq
    (.seq
      (.region [
        ⟨(some 25), (.move (.t 9)), none, []⟩,
        ⟨(some 26), (.bin .gtr (.t 25) (.c (.int .i64 1))), none, [0]⟩])
      (.cond (.t 26)
        .skip
        (.exit 0)))
    (.seq
      (.block 1 [5, 6, 7, 8, 9]
        (.region [
          ⟨(some 29), (.move (.t 8)), none, []⟩,
          ⟨(some 30), (.move (.t 29)), none, [0]⟩,
          ⟨(some 31), (.move (.t 9)), (some (30, true)), [1]⟩,
          ⟨(some 32), (.bin .rem (.t 31) (.c (.int .i64 2))), (some (30, true)), [2, 1]⟩,
          ⟨(some 33), (.bin .eql (.t 32) (.c (.int .i64 0))), (some (30, true)), [3, 1]⟩,
          ⟨(some 34), (.pick (.t 30) (.t 33) (.c (.bool false))), none, [1, 4]⟩,
          ⟨(some 8), (.move (.t 34)), none, [5, 1, 0, 1, 2, 3, 4, 5]⟩]))
      (.region [
        ⟨(some 27), (.move (.t 9)), none, []⟩,
        ⟨(some 28), (.bin .quo (.t 27) (.c (.int .i64 2))), none, [0]⟩,
        ⟨(some 9), (.move (.t 28)), none, [1, 0, 1]⟩])))
/-- awardingbody/awardingbodylaw40.TreeShape -/
def c232 : CFun where
  np := 2
  deep := true
  res := [(.t 4)]
  body :=
    (.seq
      (.region [
        ⟨(some 4), (.move (.c (.bool false))), none, []⟩])
      (.seq
        (.seq
          (.region [
            ⟨(some 10), (.move (.t 0)), none, []⟩,
            ⟨(some 11), (.call 166 [(.t 10)]), none, [0]⟩,
            ⟨(some 12), (.un .not (.t 11)), none, [1]⟩])
          (.cond (.t 12)
            (.seq
              (.region [
                ⟨(some 13), (.call 234 []), none, []⟩,
                ⟨(some 4), (.move (.t 13)), none, [0, 0, 0]⟩])
              .ret)
            .skip))
        (.seq
          (.region [
            ⟨(some 14), (.move (.t 1)), none, []⟩,
            ⟨(some 15), (.bin .rem (.t 14) (.c (.int .u8 60))), none, [0]⟩,
            ⟨(some 16), (.conv .i64 (.t 15)), none, [1]⟩,
            ⟨(some 17), (.bin .add (.c (.int .i64 2)) (.t 16)), none, [2]⟩,
            ⟨(some 5), (.move (.t 17)), none, [3, 0, 1, 2, 3]⟩])
          (.seq
            (.region [
              ⟨(some 18), (.move (.t 0)), none, []⟩,
              ⟨(some 19), (.call 168 [(.t 18)]), none, [0]⟩,
              ⟨(some 20), (.move (.t 5)), none, []⟩,
              ⟨(some 21), (.call 235 [(.t 19), (.t 20)]), none, [1, 2, 1]⟩,
              ⟨(some 6), (.move (.t 21)), none, [3, 3, 0, 1, 2, 3]⟩])
            (.seq
              (.region [
                ⟨(some 22), (.move (.t 5)), none, []⟩,
                ⟨(some 23), (.call 243 [(.t 22)]), none, [0]⟩,
                ⟨(some 7), (.move (.t 23)), none, [1, 1, 0, 1]⟩])
              (.seq
                (.region [
                  ⟨(some 8), (.move (.c (.bool true))), none, []⟩])
                (.seq
                  (.seq
                    (.region [
                      ⟨(some 24), (.move (.t 7)), none, []⟩,
                      ⟨(some 9), (.move (.t 24)), none, [0, 0]⟩])
                    (.block 0 [5, 6, 7, 8]
                      (.loop [5, 6, 7, 8, 9] l232_0)))
                  (.seq
                    (.dregion d232_0)
                    .ret))))))))
theorem rd232_0 (E : Env) (h14 : deepB E 14 = true) (h19 : deepB E 19 = true) (h234 : deepB E 234 = true) (h238 : deepB E 238 = true) (h239 : deepB E 239 = true) (st : St) : Run E (.dregion d232_0) st = regT (runOps E (Call E) d232_0 st) := run_dpure (by decide +kernel) (by simp [callsOf, d232_0, h14, h19, h234, h238, h239]) st
@[reducible] def d233_0 : List KO := [
  ⟨(some 57), (.move (.t 14)), none, []⟩,
  ⟨(some 58), (.bin .eql (.t 57) (.c (.int .i64 0))), none, [0]⟩,
  ⟨(some 59), (.move (.t 58)), none, [1]⟩,
  ⟨(some 60), (.move (.t 10)), (some (59, true)), [2]⟩,
  ⟨(some 61), (.move (.t 8)), (some (59, true)), [2]⟩,
  ⟨(some 62), (.load true 4 (.t 11)), (some (59, true)), [2]⟩,
  ⟨(some 63), (.load true 4 (.t 12)), (some (59, true)), [2]⟩,
  ⟨(some 64), (.move (.t 13)), (some (59, true)), [2]⟩,
  ⟨(some 65), (.call 245 [(.t 60), (.t 61), (.t 62), (.t 63), (.t 64)]), (some (59, true)), [3, 4, 5, 6, 7, 2, 2]⟩,
  ⟨(some 66), (.pick (.t 59) (.t 65) (.c (.bool false))), none, [2, 8]⟩,
  ⟨(some 67), (.move (.t 66)), none, [9, 8]⟩,
  ⟨(some 68), (.move (.t 10)), (some (67, true)), [10]⟩,
  ⟨(some 69), (.move (.t 8)), (some (67, true)), [10]⟩,
  ⟨(some 70), (.load true 4 (.t 15)), (some (67, true)), [10]⟩,
  ⟨(some 71), (.load true 4 (.t 12)), (some (67, true)), [10]⟩,
  ⟨(some 72), (.move (.t 13)), (some (67, true)), [10]⟩,
  ⟨(some 73), (.call 245 [(.t 68), (.t 69), (.t 70), (.t 71), (.t 72)]), (some (67, true)), [11, 12, 13, 14, 15, 10, 10]⟩,
  ⟨(some 74), (.un .not (.t 73)), (some (67, true)), [16, 10]⟩,
  ⟨(some 75), (.move (.t 74)), (some (67, true)), [17, 16, 10]⟩,
  ⟨(some 76), (.move (.t 10)), (some (75, false)), [18]⟩,
  ⟨(some 77), (.move (.t 8)), (some (75, false)), [18]⟩,
  ⟨(some 78), (.load true 4 (.t 15)), (some (75, false)), [18]⟩,
  ⟨(some 79), (.load true 4 (.t 12)), (some (75, false)), [18]⟩,
  ⟨(some 80), (.move (.t 13)), (some (75, false)), [18]⟩,
  ⟨(some 81), (.call 246 [(.t 76), (.t 77), (.t 78), (.t 79), (.t 80)]), (some (75, false)), [19, 20, 21, 22, 23, 18, 18]⟩,
  ⟨(some 82), (.pick (.t 75) (.c (.bool true)) (.t 81)), (some (67, true)), [18, 24, 10]⟩,
  ⟨(some 83), (.pick (.t 67) (.t 82) (.c (.bool false))), none, [10, 25]⟩,
  ⟨(some 84), (.move (.t 83)), none, [26, 24]⟩,
  ⟨(some 85), (.move (.t 10)), (some (84, true)), [27]⟩,
  ⟨(some 86), (.move (.t 8)), (some (84, true)), [27]⟩,
  ⟨(some 87), (.load true 4 (.t 11)), (some (84, true)), [27]⟩,
  ⟨(some 88), (.load true 4 (.t 16)), (some (84, true)), [27]⟩,
  ⟨(some 89), (.move (.t 13)), (some (84, true)), [27]⟩,
  ⟨(some 90), (.call 245 [(.t 85), (.t 86), (.t 87), (.t 88), (.t 89)]), (some (84, true)), [28, 29, 30, 31, 32, 27, 27]⟩,
  ⟨(some 91), (.un .not (.t 90)), (some (84, true)), [33, 27]⟩,
  ⟨(some 92), (.pick (.t 84) (.t 91) (.c (.bool false))), none, [27, 34]⟩,
  ⟨(some 93), (.move (.t 92)), none, [35, 33]⟩,
  ⟨(some 94), (.move (.t 10)), (some (93, true)), [36]⟩,
  ⟨(some 95), (.move (.t 8)), (some (93, true)), [36]⟩,
  ⟨(some 96), (.load true 4 (.t 11)), (some (93, true)), [36]⟩,
  ⟨(some 97), (.load true 4 (.t 12)), (some (93, true)), [36]⟩,
  ⟨(some 98), (.move (.t 13)), (some (93, true)), [36]⟩,
  ⟨(some 99), (.append 4 16 (.c (.list true true [])) (.t 98)), (some (93, true)), [41, 36, 36]⟩,
  ⟨(some 100), (.load true 4 (.t 12)), (some (93, true)), [36]⟩,
  ⟨(some 101), (.lit 4 (.agg [(.int .u32 0), (.int .u32 0), (.int .u32 0), (.int .u32 0)]) 1 [(0, (.t 100))]), (some (93, true)), [43, 36]⟩,
  ⟨(some 102), (.append 4 16 (.t 99) (.t 101)), (some (93, true)), [42, 44, 42, 36]⟩,
  ⟨(some 103), (.call 245 [(.t 94), (.t 95), (.t 96), (.t 97), (.t 102)]), (some (93, true)), [37, 38, 39, 40, 45, 45, 36]⟩,
  ⟨(some 104), (.un .not (.t 103)), (some (93, true)), [46, 36]⟩,
  ⟨(some 105), (.pick (.t 93) (.t 104) (.c (.bool false))), none, [36, 47]⟩,
  ⟨(some 106), (.move (.t 105)), none, [48, 46]⟩,
  ⟨(some 107), (.move (.t 10)), (some (106, true)), [49]⟩,
  ⟨(some 108), (.move (.t 8)), (some (106, true)), [49]⟩,
  ⟨(some 109), (.bin .eql (.t 107) (.t 108)), (some (106, true)), [50, 51, 49]⟩,
  ⟨(some 110), (.move (.t 109)), (some (106, true)), [52, 49, 49]⟩,
  ⟨(some 111), (.move (.t 10)), (some (110, false)), [53]⟩,
  ⟨(some 112), (.move (.t 8)), (some (110, false)), [53]⟩,
  ⟨(some 113), (.load true 4 (.t 11)), (some (110, false)), [53]⟩,
  ⟨(some 114), (.load true 4 (.t 12)), (some (110, false)), [53]⟩,
  ⟨(some 115), (.call 245 [(.t 111), (.t 112), (.t 113), (.t 114), (.c (.list true true []))]), (some (110, false)), [54, 55, 56, 57, 53, 53]⟩,
  ⟨(some 116), (.un .not (.t 115)), (some (110, false)), [58, 53]⟩,
  ⟨(some 117), (.pick (.t 110) (.c (.bool true)) (.t 116)), (some (106, true)), [53, 59, 49]⟩,
  ⟨(some 118), (.pick (.t 106) (.t 117) (.c (.bool false))), none, [49, 60]⟩,
  ⟨(some 119), (.move (.t 118)), none, [61, 58]⟩,
  ⟨(some 120), (.call 234 []), (some (119, true)), [62, 62]⟩,
  ⟨(some 121), (.pick (.t 119) (.t 120) (.c (.bool false))), none, [62, 63]⟩,
  ⟨(some 6), (.move (.t 121)), none, [64, 63, 0, 1, 2, 3, 4, 5, 6, 7, 8, 9, 10, 11, 12, 13, 14, 15, 16, 17, 18, 19, 20, 21, 22, 23, 24, 25, 26, 27, 28, 29, 30, 31, 32, 33, 34, 35, 36, 37, 38, 39, 40, 41, 42, 43, 44, 45, 46, 47, 48, 49, 50, 51, 52, 53, 54, 55, 56, 57, 58, 59, 60, 61, 62, 63, 64]⟩]
/-- awardingbody/awardingbodylaw40.TreeGrows -/
def c233 : CFun where
  np := 3
  deep := true
  res := [(.t 6)]
  body :=
    (.seq
      (.region [
        ⟨(some 6), (.move (.c (.bool false))), none, []⟩])
      (.seq
        (.seq
          (.region [
            ⟨(some 17), (.move (.t 0)), none, []⟩,
            ⟨(some 18), (.call 166 [(.t 17)]), none, [0]⟩,
            ⟨(some 19), (.un .not (.t 18)), none, [1]⟩])
          (.cond (.t 19)
            (.seq
              (.region [
                ⟨(some 20), (.call 234 []), none, []⟩,
                ⟨(some 6), (.move (.t 20)), none, [0, 0, 0]⟩])
              .ret)
            .skip))
        (.seq
          (.region [
            ⟨(some 21), (.move (.t 0)), none, []⟩,
            ⟨(some 22), (.call 168 [(.t 21)]), none, [0]⟩,
            ⟨(some 7), (.move (.t 22)), none, [1, 1, 0, 1]⟩])
          (.seq
            (.region [
              ⟨(some 23), (.move (.t 1)), none, []⟩,
              ⟨(some 24), (.bin .rem (.t 23) (.c (.int .u8 40))), none, [0]⟩,
              ⟨(some 25), (.conv .i64 (.t 24)), none, [1]⟩,
              ⟨(some 26), (.bin .add (.c (.int .i64 1)) (.t 25)), none, [2]⟩,
              ⟨(some 8), (.move (.t 26)), none, [3, 0, 1, 2, 3]⟩])
            (.seq
              (.region [
                ⟨(some 27), (.move (.t 7)), none, []⟩,
                ⟨(some 28), (.move (.t 8)), none, []⟩,
                ⟨(some 29), (.call 235 [(.t 27), (.t 28)]), none, [0, 1]⟩,
                ⟨(some 9), (.move (.t 29)), none, [2, 2, 0, 1, 2]⟩])
              (.seq
                (.region [
                  ⟨(some 30), (.move (.t 2)), none, []⟩,
                  ⟨(some 31), (.conv .i64 (.t 30)), none, [0]⟩,
                  ⟨(some 32), (.move (.t 8)), none, []⟩,
                  ⟨(some 33), (.bin .rem (.t 31) (.t 32)), none, [1, 2]⟩,
                  ⟨(some 34), (.bin .add (.c (.int .i64 1)) (.t 33)), none, [3]⟩,
                  ⟨(some 10), (.move (.t 34)), none, [4, 0, 1, 2, 3, 4]⟩])
                (.seq
                  (.region [
                    ⟨(some 35), (.move (.t 9)), none, []⟩,
                    ⟨(some 36), (.move (.t 10)), none, []⟩,
                    ⟨(some 37), (.slice (some 4) (.t 35) none (some (.t 36))), none, [0, 1]⟩,
                    ⟨(some 38), (.call 239 [(.t 37)]), none, [2]⟩,
                    ⟨(some 39), (.move (.t 9)), none, []⟩,
                    ⟨(some 40), (.call 239 [(.t 39)]), none, [4, 3]⟩,
                    ⟨(some 11), (.alloc (some 11) 4 [(.agg [(.int .u32 0), (.int .u32 0), (.int .u32 0), (.int .u32 0)])]), none, []⟩,
                    ⟨(some 12), (.alloc (some 12) 4 [(.agg [(.int .u32 0), (.int .u32 0), (.int .u32 0), (.int .u32 0)])]), none, []⟩,
                    ⟨none, (.store 4 (.t 11) (.t 38)), none, [6, 3, 5, 0, 1, 2, 3, 6, 7]⟩,
                    ⟨none, (.store 4 (.t 12) (.t 40)), none, [7, 5, 8, 0, 1, 2, 3, 4, 5, 6, 7, 8]⟩])
                  (.seq
                    (.region [
                      ⟨(some 42), (.move (.t 9)), none, []⟩,
                      ⟨(some 43), (.move (.t 10)), none, []⟩,
                      ⟨(some 44), (.call 244 [(.t 42), (.t 43)]), none, [0, 1]⟩,
                      ⟨(some 41), (.move (.t 44)), none, [2]⟩,
                      ⟨(some 45), (.extract (.t 41) 0), none, [3]⟩,
                      ⟨(some 46), (.extract (.t 41) 1), none, [3]⟩,
                      ⟨(some 13), (.move (.t 45)), none, [4, 2, 0, 1, 2, 3, 4]⟩,
                      ⟨(some 14), (.move (.t 46)), none, [5, 6, 0, 1, 2, 3, 4, 5, 6]⟩])
                    (.seq
                      (.region [
                        ⟨(some 47), (.load true 4 (.t 11)), none, []⟩,
                        ⟨(some 15), (.alloc (some 15) 4 [(.agg [(.int .u32 0), (.int .u32 0), (.int .u32 0), (.int .u32 0)])]), none, []⟩,
                        ⟨none, (.store 4 (.t 15) (.t 47)), none, [1, 0, 0, 1]⟩])
                      (.seq
                        (.region [
                          ⟨(some 48), (.aaddr 4 1 (.t 15) (.c (.int .i64 3))), none, []⟩,
                          ⟨(some 49), (.load false 1 (.t 48)), none, [0]⟩,
                          ⟨(some 50), (.bin .add (.t 49) (.c (.int .u32 1))), none, [1]⟩,
                          ⟨(some 51), (.aaddr 4 1 (.t 15) (.c (.int .i64 3))), none, [0, 1, 2]⟩,
                          ⟨none, (.store 1 (.t 51) (.t 50)), none, [3, 2, 0, 1, 2]⟩])
                        (.seq
                          (.region [
                            ⟨(some 52), (.load true 4 (.t 12)), none, []⟩,
                            ⟨(some 16), (.alloc (some 16) 4 [(.agg [(.int .u32 0), (.int .u32 0), (.int .u32 0), (.int .u32 0)])]), none, []⟩,
                            ⟨none, (.store 4 (.t 16) (.t 52)), none, [1, 0, 0, 1]⟩])
                          (.seq
                            (.region [
                              ⟨(some 53), (.aaddr 4 1 (.t 16) (.c (.int .i64 2))), none, []⟩,
                              ⟨(some 54), (.load false 1 (.t 53)), none, [0]⟩,
                              ⟨(some 55), (.bin .add (.t 54) (.c (.int .u32 1))), none, [1]⟩,
                              ⟨(some 56), (.aaddr 4 1 (.t 16) (.c (.int .i64 2))), none, [0, 1, 2]⟩,
                              ⟨none, (.store 1 (.t 56) (.t 55)), none, [3, 2, 0, 1, 2]⟩])
                            (.seq
                              (.dregion d233_0)
                              .ret)))))))))))))
-- d233_0: not quiet
@[reducible] def d234_0 : List KO := [
  ⟨(some 45), (.move (.t 6)), none, []⟩,
  ⟨(some 46), (.bin .eql (.t 45) (.c (.int .i64 0))), none, [0]⟩,
  ⟨(some 47), (.move (.t 46)), none, [1]⟩,
  ⟨(some 48), (.move (.t 8)), (some (47, true)), [2]⟩,
  ⟨(some 49), (.bin .eql (.t 48) (.c (.int .i64 0))), (some (47, true)), [3, 2]⟩,
  ⟨(some 50), (.pick (.t 47) (.t 49) (.c (.bool false))), none, [2, 4]⟩,
  ⟨(some 51), (.move (.t 50)), none, [5, 2]⟩,
  ⟨(some 52), (.move (.t 10)), (some (51, true)), [6]⟩,
  ⟨(some 53), (.bin .eql (.t 52) (.c (.int .i64 0))), (some (51, true)), [7, 6]⟩,
  ⟨(some 54), (.pick (.t 51) (.t 53) (.c (.bool false))), none, [6, 8]⟩,
  ⟨(some 55), (.move (.t 54)), none, [9, 6]⟩,
  ⟨(some 56), (.move (.t 12)), (some (55, true)), [10]⟩,
  ⟨(some 57), (.bin .eql (.t 56) (.c (.int .i64 0))), (some (55, true)), [11, 10]⟩,
  ⟨(some 58), (.pick (.t 55) (.t 57) (.c (.bool false))), none, [10, 12]⟩,
  ⟨(some 59), (.move (.t 58)), none, [13, 10]⟩,
  ⟨(some 60), (.load true 4 (.t 13)), (some (59, true)), [14]⟩,
  ⟨(some 61), (.load true 4 (.t 1)), (some (59, true)), [14]⟩,
  ⟨(some 62), (.call 238 [(.t 61)]), (some (59, true)), [16, 14, 14]⟩,
  ⟨(some 63), (.load true 4 (.t 2)), (some (59, true)), [14]⟩,
  ⟨(some 64), (.call 238 [(.t 63)]), (some (59, true)), [18, 17, 14]⟩,
  ⟨(some 65), (.call 19 [(.t 62), (.t 64)]), (some (59, true)), [17, 19, 19, 14]⟩,
  ⟨(some 66), (.load true 4 (.t 3)), (some (59, true)), [14]⟩,
  ⟨(some 67), (.call 238 [(.t 66)]), (some (59, true)), [21, 20, 14]⟩,
  ⟨(some 68), (.call 19 [(.t 65), (.t 67)]), (some (59, true)), [20, 22, 22, 14]⟩,
  ⟨(some 69), (.eqv false true [.i, .i, .i, .i] (.t 60) (.t 68)), (some (59, true)), [15, 23, 14]⟩,
  ⟨(some 70), (.pick (.t 59) (.t 69) (.c (.bool false))), none, [14, 24]⟩,
  ⟨(some 71), (.move (.t 70)), none, [25, 23]⟩,
  ⟨(some 72), (.move (.t 5)), (some (71, true)), [26]⟩,
  ⟨(some 73), (.load true 4 (.t 1)), (some (71, true)), [26]⟩,
  ⟨(some 74), (.call 238 [(.t 73)]), (some (71, true)), [28, 26, 26]⟩,
  ⟨(some 75), (.load true 4 (.t 3)), (some (71, true)), [26]⟩,
  ⟨(some 76), (.call 238 [(.t 75)]), (some (71, true)), [30, 29, 26]⟩,
  ⟨(some 77), (.lit 4 (.agg [(.int .u32 0), (.int .u32 0), (.int .u32 0), (.int .u32 0)]) 2 [(0, (.t 74)), (1, (.t 76))]), (some (71, true)), [29, 31, 26]⟩,
  ⟨(some 78), (.call 247 [(.t 72), (.t 77)]), (some (71, true)), [27, 32, 31, 26]⟩,
  ⟨(some 79), (.pick (.t 71) (.t 78) (.c (.bool false))), none, [26, 33]⟩,
  ⟨(some 80), (.move (.t 79)), none, [34, 33]⟩,
  ⟨(some 81), (.move (.t 7)), (some (80, true)), [35]⟩,
  ⟨(some 82), (.load true 4 (.t 3)), (some (80, true)), [35]⟩,
  ⟨(some 83), (.call 238 [(.t 82)]), (some (80, true)), [37, 35, 35]⟩,
  ⟨(some 84), (.lit 4 (.agg [(.int .u32 0), (.int .u32 0), (.int .u32 0), (.int .u32 0)]) 1 [(0, (.t 83))]), (some (80, true)), [38, 35]⟩,
  ⟨(some 85), (.call 247 [(.t 81), (.t 84)]), (some (80, true)), [36, 39, 38, 35]⟩,
  ⟨(some 86), (.pick (.t 80) (.t 85) (.c (.bool false))), none, [35, 40]⟩,
  ⟨(some 87), (.move (.t 86)), none, [41, 40]⟩,
  ⟨(some 88), (.move (.t 9)), (some (87, true)), [42]⟩,
  ⟨(some 89), (.load true 4 (.t 2)), (some (87, true)), [42]⟩,
  ⟨(some 90), (.call 238 [(.t 89)]), (some (87, true)), [44, 42, 42]⟩,
  ⟨(some 91), (.load true 4 (.t 3)), (some (87, true)), [42]⟩,
  ⟨(some 92), (.call 238 [(.t 91)]), (some (87, true)), [46, 45, 42]⟩,
  ⟨(some 93), (.lit 4 (.agg [(.int .u32 0), (.int .u32 0), (.int .u32 0), (.int .u32 0)]) 2 [(0, (.t 90)), (1, (.t 92))]), (some (87, true)), [45, 47, 42]⟩,
  ⟨(some 94), (.call 247 [(.t 88), (.t 93)]), (some (87, true)), [43, 48, 47, 42]⟩,
  ⟨(some 95), (.pick (.t 87) (.t 94) (.c (.bool false))), none, [42, 49]⟩,
  ⟨(some 96), (.move (.t 95)), none, [50, 49]⟩,
  ⟨(some 97), (.load true 4 (.t 11)), (some (96, true)), [51]⟩,
  ⟨(some 98), (.load true 4 (.t 13)), (some (96, true)), [51]⟩,
  ⟨(some 99), (.eqv false true [.i, .i, .i, .i] (.t 97) (.t 98)), (some (96, true)), [52, 53, 51]⟩,
  ⟨(some 100), (.pick (.t 96) (.t 99) (.c (.bool false))), none, [51, 54]⟩,
  ⟨(some 101), (.move (.t 100)), none, [55, 51]⟩,
  ⟨(some 102), (.call 243 [(.c (.int .i64 5))]), (some (101, true)), [56, 56]⟩,
  ⟨(some 103), (.bin .eql (.t 102) (.c (.int .i64 4))), (some (101, true)), [57, 56]⟩,
  ⟨(some 104), (.pick (.t 101) (.t 103) (.c (.bool false))), none, [56, 58]⟩,
  ⟨(some 105), (.move (.t 104)), none, [59, 57]⟩,
  ⟨(some 106), (.load true 4 (.t 1)), (some (105, true)), [60]⟩,
  ⟨(some 107), (.call 238 [(.t 106)]), (some (105, true)), [61, 60, 60]⟩,
  ⟨(some 108), (.load true 4 (.t 1)), (some (105, true)), [60]⟩,
  ⟨(some 109), (.eqv true true [.i, .i, .i, .i] (.t 107) (.t 108)), (some (105, true)), [62, 63, 60]⟩,
  ⟨(some 110), (.pick (.t 105) (.t 109) (.c (.bool false))), none, [60, 64]⟩,
  ⟨(some 0), (.move (.t 110)), none, [65, 62, 0, 1, 2, 3, 4, 5, 6, 7, 8, 9, 10, 11, 12, 13, 14, 15, 16, 17, 18, 19, 20, 21, 22, 23, 24, 25, 26, 27, 28, 29, 30, 31, 32, 33, 34, 35, 36, 37, 38, 39, 40, 41, 42, 43, 44, 45, 46, 47, 48, 49, 50, 51, 52, 53, 54, 55, 56, 57, 58, 59, 60, 61, 62, 63, 64, 65]⟩]
/-- awardingbody/awardingbodylaw40.sane -/
def c234 : CFun where
  np := 0
  deep := true
  res := [(.t 0)]
  body :=
    (.seq
      (.region [
        ⟨(some 0), (.move (.c (.bool false))), none, []⟩])
      (.seq
        (.region [
          ⟨(some 14), (.build [(.int .u32 0), (.int .u32 0), (.int .u32 0), (.int .u32 0)] [(0, 1, (.c (.int .u32 1)))]), none, []⟩,
          ⟨(some 15), (.build [(.int .u32 0), (.int .u32 0), (.int .u32 0), (.int .u32 0)] [(0, 1, (.c (.int .u32 2)))]), none, []⟩,
          ⟨(some 16), (.build [(.int .u32 0), (.int .u32 0), (.int .u32 0), (.int .u32 0)] [(0, 1, (.c (.int .u32 3)))]), none, []⟩,
          ⟨(some 1), (.alloc (some 1) 4 [(.agg [(.int .u32 0), (.int .u32 0), (.int .u32 0), (.int .u32 0)])]), none, []⟩,
          ⟨(some 2), (.alloc (some 2) 4 [(.agg [(.int .u32 0), (.int .u32 0), (.int .u32 0), (.int .u32 0)])]), none, []⟩,
          ⟨(some 3), (.alloc (some 3) 4 [(.agg [(.int .u32 0), (.int .u32 0), (.int .u32 0), (.int .u32 0)])]), none, []⟩,
          ⟨none, (.store 4 (.t 1) (.t 14)), none, [3, 0, 0, 3, 4, 5]⟩,
          ⟨none, (.store 4 (.t 2) (.t 15)), none, [4, 1, 6, 0, 1, 3, 4, 5, 6]⟩,
          ⟨none, (.store 4 (.t 3) (.t 16)), none, [5, 2, 7, 0, 1, 2, 3, 4, 5, 6, 7]⟩])
        (.seq
          (.region [
            ⟨(some 17), (.load true 4 (.t 1)), none, []⟩,
            ⟨(some 18), (.load true 4 (.t 2)), none, []⟩,
            ⟨(some 19), (.load true 4 (.t 3)), none, []⟩,
            ⟨(some 20), (.lit 4 (.agg [(.int .u32 0), (.int .u32 0), (.int .u32 0), (.int .u32 0)]) 3 [(0, (.t 17)), (1, (.t 18)), (2, (.t 19))]), none, [0, 1, 2]⟩,
            ⟨(some 4), (.move (.t 20)), none, [3, 0, 1, 2, 3]⟩])
          (.seq
            (.region [
              ⟨(some 22), (.move (.t 4)), none, []⟩,
              ⟨(some 23), (.call 236 [(.t 22), (.c (.int .i64 1))]), none, [0]⟩,
              ⟨(some 21), (.move (.t 23)), none, [1]⟩,
              ⟨(some 24), (.extract (.t 21) 0), none, [2]⟩,
              ⟨(some 25), (.extract (.t 21) 1), none, [2]⟩,
              ⟨(some 5), (.move (.t 24)), none, [3, 1, 0, 1, 2, 3]⟩,
              ⟨(some 6), (.move (.t 25)), none, [4, 5, 0, 1, 2, 3, 4, 5]⟩])
            (.seq
              (.region [
                ⟨(some 27), (.move (.t 4)), none, []⟩,
                ⟨(some 28), (.call 244 [(.t 27), (.c (.int .i64 2))]), none, [0]⟩,
                ⟨(some 26), (.move (.t 28)), none, [1]⟩,
                ⟨(some 29), (.extract (.t 26) 0), none, [2]⟩,
                ⟨(some 30), (.extract (.t 26) 1), none, [2]⟩,
                ⟨(some 7), (.move (.t 29)), none, [3, 1, 0, 1, 2, 3]⟩,
                ⟨(some 8), (.move (.t 30)), none, [4, 5, 0, 1, 2, 3, 4, 5]⟩])
              (.seq
                (.region [
                  ⟨(some 32), (.move (.t 4)), none, []⟩,
                  ⟨(some 33), (.call 244 [(.t 32), (.c (.int .i64 1))]), none, [0]⟩,
                  ⟨(some 31), (.move (.t 33)), none, [1]⟩,
                  ⟨(some 34), (.extract (.t 31) 0), none, [2]⟩,
                  ⟨(some 35), (.extract (.t 31) 1), none, [2]⟩,
                  ⟨(some 9), (.move (.t 34)), none, [3, 1, 0, 1, 2, 3]⟩,
                  ⟨(some 10), (.move (.t 35)), none, [4, 5, 0, 1, 2, 3, 4, 5]⟩])
                (.seq
                  (.region [
                    ⟨(some 37), (.load true 4 (.t 2)), none, []⟩,
                    ⟨(some 38), (.call 238 [(.t 37)]), none, [0]⟩,
                    ⟨(some 39), (.move (.t 5)), none, []⟩,
                    ⟨(some 40), (.call 237 [(.t 38), (.c (.int .i64 1)), (.c (.int .i64 3)), (.t 39)]), none, [1, 2, 1]⟩,
                    ⟨(some 36), (.move (.t 40)), none, [3]⟩,
                    ⟨(some 41), (.extract (.t 36) 0), none, [4]⟩,
                    ⟨(some 42), (.extract (.t 36) 1), none, [4]⟩,
                    ⟨(some 11), (.alloc (some 11) 4 [(.agg [(.int .u32 0), (.int .u32 0), (.int .u32 0), (.int .u32 0)])]), none, []⟩,
                    ⟨none, (.store 4 (.t 11) (.t 41)), none, [7, 5, 3, 0, 1, 2, 3, 4, 5, 7]⟩,
                    ⟨(some 12), (.move (.t 42)), none, [6, 8, 0, 1, 2, 3, 4, 5, 6, 7, 8]⟩])
                  (.seq
                    (.region [
                      ⟨(some 43), (.move (.t 4)), none, []⟩,
                      ⟨(some 44), (.call 239 [(.t 43)]), none, [0]⟩,
                      ⟨(some 13), (.alloc (some 13) 4 [(.agg [(.int .u32 0), (.int .u32 0), (.int .u32 0), (.int .u32 0)])]), none, []⟩,
                      ⟨none, (.store 4 (.t 13) (.t 44)), none, [2, 1, 1, 0, 1, 2]⟩])
                    (.seq
                      (.dregion d234_0)
                      .ret)))))))))
theorem rd234_0 (E : Env) (h19 : deepB E 19 = true) (h238 : deepB E 238 = true) (h243 : deepB E 243 = true) (h247 : deepB E 247 = true) (st : St) : Run E (.dregion d234_0) st = regT (runOps E (Call E) d234_0 st) := run_dpure (by decide +kernel) (by simp [callsOf, d234_0, h19, h238, h243, h247]) st
def l235_0 : KC :=
  (.seq
    (.seq
      (.region [
        ⟨(some 7), (.move (.t 6)), none, []⟩,
        ⟨(some 8), (.move (.t 1)), none, []⟩,
        ⟨(some 9), (.bin .lss (.t 7) (.t 8)), none, [0, 1]⟩])
      (.cond (.t 9)
        .skip
        (.exit 0)))
    (.seq
      (.block 1 [0, 1, 5, 6]
        (.region [
          ⟨(some 12), (.move (.t 5)), none, []⟩,
          ⟨(some 13), (.move (.t 0)), none, []⟩,
          ⟨(some 14), (.call 178 [(.t 13), (.c (.int .i64 1048576))]), none, [1]⟩,
          ⟨(some 15), (.conv .u32 (.t 14)), none, [2]⟩,
          ⟨(some 16), (.move (.t 6)), none, []⟩,
          ⟨(some 17), (.conv .u32 (.t 16)), none, [4]⟩,
          ⟨(some 18), (.move (.t 0)), none, []⟩,
          ⟨(some 19), (.call 178 [(.t 18), (.c (.int .i64 3))]), none, [6, 2]⟩,
          ⟨(some 20), (.conv .u32 (.t 19)), none, [7]⟩,
          ⟨(some 21), (.build [(.int .u32 0), (.int .u32 0), (.int .u32 0), (.int .u32 0)] [(0, 1, (.t 15)), (1, 1, (.t 17)), (2, 1, (.t 20)), (3, 1, (.c (.int .u32 7)))]), none, [3, 5, 8]⟩,
          ⟨(some 22), (.lit 4 (.agg [(.int .u32 0), (.int .u32 0), (.int .u32 0), (.int .u32 0)]) 1 [(0, (.t 21))]), none, [9]⟩,
          ⟨(some 23), (.append 4 16 (.t 12) (.t 22)), none, [0, 10, 7]⟩,
          ⟨(some 5), (.move (.t 23)), none, [11, 11, 0, 1, 2, 3, 4, 5, 6, 7, 8, 9, 10, 11]⟩]))
      (.region [
        ⟨(some 10), (.move (.t 6)), none, []⟩,
        ⟨(some 11), (.bin .add (.t 10) (.c (.int .i64 1))), none, [0]⟩,
        ⟨(some 6), (.move (.t 11)), none, [1, 0, 1]⟩])))
/-- (*awardingbody/awardingbodymark.Dice).Digests -/
def c235 : CFun where
  np := 2
  deep := false
  res := [(.t 4)]
  body :=
    (.seq
      (.region [
        ⟨(some 4), (.move (.c (.list true true []))), none, []⟩])
      (.seq
        (.region [
          ⟨(some 5), (.move (.c (.list true true []))), none, []⟩])
        (.seq
          (.seq
            (.region [
              ⟨(some 6), (.move (.c (.int .i64 0))), none, []⟩])
            (.block 0 [5]
              (.loop [0, 1, 5, 6] l235_0)))
          (.seq
            (.region [
              ⟨(some 24), (.move (.t 5)), none, []⟩,
              ⟨(some 4), (.move (.t 24)), none, [0, 0]⟩])
            .ret))))
/-- awardingbody/tree.Path -/
def c236 : CFun where
  np := 2
  deep := true
  res := [(.t 4), (.t 5)]
  body :=
    (.seq
      (.region [
        ⟨(some 4), (.move (.c (.list true true []))), none, []⟩,
        ⟨(some 5), (.move (.c (.int .i64 0))), none, [0]⟩])
      (.seq
        (.block 0 [0, 1]
          (.seq
            (.region [
              ⟨(some 7), (.move (.t 0)), none, []⟩,
              ⟨(some 8), (.len false (.t 7)), none, [0]⟩,
              ⟨(some 9), (.bin .gtr (.t 8) (.c (.int .i64 256))), none, [1]⟩,
              ⟨(some 6), (.move (.t 9)), none, [2]⟩])
            (.cond (.t 6)
              (.seq
                (.region [
                  ⟨(some 4), (.move (.c (.list true true []))), none, []⟩,
                  ⟨(some 5), (.move (.c (.int .i64 3))), none, [0, 0]⟩])
                .ret)
              (.seq
                (.region [
                  ⟨(some 11), (.move (.t 1)), none, []⟩,
                  ⟨(some 12), (.bin .lss (.t 11) (.c (.int .i64 0))), none, [0]⟩,
                  ⟨(some 13), (.move (.t 12)), none, [1]⟩,
                  ⟨(some 14), (.move (.t 1)), (some (13, false)), [2]⟩,
                  ⟨(some 15), (.move (.t 0)), (some (13, false)), [2]⟩,
                  ⟨(some 16), (.len false (.t 15)), (some (13, false)), [4, 2]⟩,
                  ⟨(some 17), (.bin .geq (.t 14) (.t 16)), (some (13, false)), [3, 5, 2]⟩,
                  ⟨(some 18), (.pick (.t 13) (.c (.bool true)) (.t 17)), none, [2, 6]⟩,
                  ⟨(some 10), (.move (.t 18)), none, [7, 2]⟩])
                (.cond (.t 10)
                  (.seq
                    (.region [
                      ⟨(some 4), (.move (.c (.list true true []))), none, []⟩,
                      ⟨(some 5), (.move (.c (.int .i64 4))), none, [0, 0]⟩])
                    .ret)
                  .skip)))))
        (.seq
          (.region [
            ⟨(some 19), (.move (.t 0)), none, []⟩,
            ⟨(some 20), (.move (.t 1)), none, []⟩,
            ⟨(some 21), (.callo 248 [(.t 19), (.t 20)]), none, [0, 1]⟩,
            ⟨(some 4), (.move (.t 21)), none, [2, 2, 0, 1, 2]⟩,
            ⟨(some 5), (.move (.c (.int .i64 0))), none, [3, 0, 1, 2, 3]⟩])
          .ret)))
/-- awardingbody/tree.Lead -/
def c237 : CFun where
  np := 4
  deep := true
  res := [(.cell 8 true 4), (.t 9)]
  body :=
    (.seq
      (.region [
        ⟨(some 4), (.box (some 4) 4 1 (.t 0)), none, []⟩,
        ⟨(some 8), (.alloc (some 8) 4 [(.agg [(.int .u32 0), (.int .u32 0), (.int .u32 0), (.int .u32 0)])]), none, []⟩,
        ⟨(some 9), (.move (.c (.int .i64 0))), none, []⟩])
      (.seq
        (.block 0 [1, 2, 3, 4, 8]
          (.seq
            (.region [
              ⟨(some 13), (.move (.t 2)), none, []⟩,
              ⟨(some 14), (.bin .gtr (.t 13) (.c (.int .i64 256))), none, [0]⟩,
              ⟨(some 12), (.move (.t 14)), none, [1]⟩])
            (.cond (.t 12)
              (.seq
                (.region [
                  ⟨(some 15), (.build [(.int .u32 0), (.int .u32 0), (.int .u32 0), (.int .u32 0)] []), none, []⟩,
                  ⟨none, (.store 4 (.t 8) (.t 15)), none, [0, 0]⟩,
                  ⟨(some 9), (.move (.c (.int .i64 3))), none, [1, 0, 1]⟩])
                .ret)
              (.seq
                (.region [
                  ⟨(some 17), (.move (.t 1)), none, []⟩,
                  ⟨(some 18), (.bin .lss (.t 17) (.c (.int .i64 0))), none, [0]⟩,
                  ⟨(some 19), (.move (.t 18)), none, [1]⟩,
                  ⟨(some 20), (.move (.t 1)), (some (19, false)), [2]⟩,
                  ⟨(some 21), (.move (.t 2)), (some (19, false)), [2]⟩,
                  ⟨(some 22), (.bin .geq (.t 20) (.t 21)), (some (19, false)), [3, 4, 2]⟩,
                  ⟨(some 23), (.pick (.t 19) (.c (.bool true)) (.t 22)), none, [2, 5]⟩,
                  ⟨(some 16), (.move (.t 23)), none, [6, 2]⟩])
                (.cond (.t 16)
                  (.seq
                    (.region [
                      ⟨(some 24), (.build [(.int .u32 0), (.int .u32 0), (.int .u32 0), (.int .u32 0)] []), none, []⟩,
                      ⟨none, (.store 4 (.t 8) (.t 24)), none, [0, 0]⟩,
                      ⟨(some 9), (.move (.c (.int .i64 4))), none, [1, 0, 1]⟩])
                    .ret)
                  .skip)))))
        (.seq
          (.region [
            ⟨(some 26), (.load true 4 (.t 4)), none, []⟩,
            ⟨(some 27), (.move (.t 1)), none, []⟩,
            ⟨(some 28), (.move (.t 2)), none, []⟩,
            ⟨(some 29), (.move (.t 3)), none, []⟩,
            ⟨(some 30), (.call 249 [(.t 26), (.t 27), (.t 28), (.t 29)]), none, [0, 1, 2, 3]⟩,
            ⟨(some 25), (.move (.t 30)), none, [4]⟩,
            ⟨(some 31), (.extract (.t 25) 0), none, [5]⟩,
            ⟨(some 32), (.extract (.t 25) 1), none, [5]⟩,
            ⟨(some 10), (.alloc (some 10) 4 [(.agg [(.int .u32 0), (.int .u32 0), (.int .u32 0), (.int .u32 0)])]), none, []⟩,
            ⟨none, (.store 4 (.t 10) (.t 31)), none, [8, 6, 4, 0, 1, 2, 3, 4, 5, 6, 8]⟩,
            ⟨(some 11), (.move (.t 32)), none, [7, 9, 0, 1, 2, 3, 4, 5, 6, 7, 8, 9]⟩])
          (.seq
            (.seq
              (.region [
                ⟨(some 33), (.move (.t 11)), none, []⟩,
                ⟨(some 34), (.un .not (.t 33)), none, [0]⟩])
              (.cond (.t 34)
                (.seq
                  (.region [
                    ⟨(some 35), (.build [(.int .u32 0), (.int .u32 0), (.int .u32 0), (.int .u32 0)] []), none, []⟩,
                    ⟨none, (.store 4 (.t 8) (.t 35)), none, [0, 0]⟩,
                    ⟨(some 9), (.move (.c (.int .i64 44))), none, [1, 0, 1]⟩])
                  .ret)
                .skip))
            (.seq
              (.region [
                ⟨(some 36), (.load true 4 (.t 10)), none, []⟩,
                ⟨none, (.store 4 (.t 8) (.t 36)), none, [0, 0]⟩,
                ⟨(some 9), (.move (.c (.int .i64 0))), none, [1, 0, 1]⟩])
              .ret)))))
/-- awardingbody/tree.Leaf -/
def c238 : CFun where
  np := 1
  deep := true
  res := [(.cell 2 true 4)]
  body :=
    (.seq
      (.region [
        ⟨(some 1), (.box none 1 4 (.t 0)), none, []⟩,
        ⟨(some 2), (.alloc (some 2) 4 [(.agg [(.int .u32 0), (.int .u32 0), (.int .u32 0), (.int .u32 0)])]), none, []⟩])
      (.seq
        (.region [
          ⟨(some 3), (.aslice 4 1 (.t 1) none none), none, []⟩,
          ⟨(some 4), (.call 14 [(.c (.int .u32 0)), (.t 3)]), none, [0]⟩,
          ⟨none, (.store 4 (.t 2) (.t 4)), none, [1, 1, 0, 1]⟩])
        .ret))
@[reducible] def d239_0 : List KO := [
  ⟨(some 18), (.move (.t 0)), none, []⟩,
  ⟨(some 19), (.move (.t 3)), none, []⟩,
  ⟨(some 20), (.slice (some 4) (.t 18) none (some (.t 19))), none, [0, 1]⟩,
  ⟨(some 21), (.call 239 [(.t 20)]), none, [2]⟩,
  ⟨(some 22), (.move (.t 0)), none, []⟩,
  ⟨(some 23), (.move (.t 3)), none, []⟩,
  ⟨(some 24), (.slice (some 4) (.t 22) (some (.t 23)) none), none, [4, 5]⟩,
  ⟨(some 25), (.call 239 [(.t 24)]), none, [6, 3]⟩,
  ⟨(some 26), (.call 19 [(.t 21), (.t 25)]), none, [3, 7, 7]⟩,
  ⟨none, (.store 4 (.t 2) (.t 26)), none, [8, 8, 0, 1, 2, 3, 4, 5, 6, 7, 8]⟩]
/-- awardingbody/tree.Root -/
def c239 : CFun where
  np := 1
  deep := true
  res := [(.cell 2 true 4)]
  body :=
    (.seq
      (.region [
        ⟨(some 2), (.alloc (some 2) 4 [(.agg [(.int .u32 0), (.int .u32 0), (.int .u32 0), (.int .u32 0)])]), none, []⟩])
      (.seq
        (.seq
          (.region [
            ⟨(some 4), (.move (.t 0)), none, []⟩,
            ⟨(some 5), (.len false (.t 4)), none, [0]⟩])
          (.block 0 [0, 2]
            (.seq
              (.region [
                ⟨(some 7), (.bin .eql (.t 5) (.c (.int .i64 0))), none, []⟩,
                ⟨(some 6), (.move (.t 7)), none, [0]⟩])
              (.cond (.t 6)
                (.seq
                  (.region [
                    ⟨(some 8), (.call 14 [(.c (.int .u32 2)), (.c (.list true true []))]), none, []⟩,
                    ⟨none, (.store 4 (.t 2) (.t 8)), none, [0, 0, 0]⟩])
                  .ret)
                (.seq
                  (.region [
                    ⟨(some 10), (.bin .eql (.t 5) (.c (.int .i64 1))), none, []⟩,
                    ⟨(some 9), (.move (.t 10)), none, [0]⟩])
                  (.cond (.t 9)
                    (.seq
                      (.region [
                        ⟨(some 11), (.move (.t 0)), none, []⟩,
                        ⟨(some 12), (.iaddr 4 (.t 11) (.c (.int .i64 0))), none, [0]⟩,
                        ⟨(some 13), (.load true 4 (.t 12)), none, [1]⟩,
                        ⟨(some 14), (.call 238 [(.t 13)]), none, [2]⟩,
                        ⟨none, (.store 4 (.t 2) (.t 14)), none, [3, 3, 0, 1, 2, 3]⟩])
                      .ret)
                    .skip))))))
        (.seq
          (.region [
            ⟨(some 15), (.move (.t 0)), none, []⟩,
            ⟨(some 16), (.len false (.t 15)), none, [0]⟩,
            ⟨(some 17), (.call 243 [(.t 16)]), none, [1]⟩,
            ⟨(some 3), (.move (.t 17)), none, [2, 2, 0, 1, 2]⟩])
          (.seq
            (.dregion d239_0)
            .ret))))
theorem rd239_0 (E : Env) (h19 : deepB E 19 = true) (h239 : deepB E 239 = true) (st : St) : Run E (.dregion d239_0) st = regT (runOps E (Call E) d239_0 st) := run_dser (by decide +kernel) (by simp [callsOf, d239_0, h19, h239]) st
/-- awardingbody/awardingbodyref40.Lead -/
def c240 : CFun where
  np := 4
  deep := true
  res := [(.cell 8 true 4), (.t 9)]
  body :=
    (.seq
      (.region [
        ⟨(some 4), (.box (some 4) 4 1 (.t 0)), none, []⟩,
        ⟨(some 8), (.alloc (some 8) 4 [(.agg [(.int .u32 0), (.int .u32 0), (.int .u32 0), (.int .u32 0)])]), none, []⟩,
        ⟨(some 9), (.move (.c (.int .i64 0))), none, []⟩])
      (.seq
        (.seq
          (.region [
            ⟨(some 12), (.move (.t 2)), none, []⟩,
            ⟨(some 13), (.bin .gtr (.t 12) (.c (.int .i64 256))), none, [0]⟩])
          (.cond (.t 13)
            (.seq
              (.region [
                ⟨(some 14), (.build [(.int .u32 0), (.int .u32 0), (.int .u32 0), (.int .u32 0)] []), none, []⟩,
                ⟨none, (.store 4 (.t 8) (.t 14)), none, [0, 0]⟩,
                ⟨(some 9), (.move (.c (.int .i64 3))), none, [1, 0, 1]⟩])
              .ret)
            .skip))
        (.seq
          (.seq
            (.region [
              ⟨(some 15), (.move (.t 1)), none, []⟩,
              ⟨(some 16), (.bin .lss (.t 15) (.c (.int .i64 0))), none, [0]⟩,
              ⟨(some 17), (.move (.t 16)), none, [1]⟩,
              ⟨(some 18), (.move (.t 1)), (some (17, false)), [2]⟩,
              ⟨(some 19), (.move (.t 2)), (some (17, false)), [2]⟩,
              ⟨(some 20), (.bin .geq (.t 18) (.t 19)), (some (17, false)), [3, 4, 2]⟩,
              ⟨(some 21), (.pick (.t 17) (.c (.bool true)) (.t 20)), none, [2, 5]⟩])
            (.cond (.t 21)
              (.seq
                (.region [
                  ⟨(some 22), (.build [(.int .u32 0), (.int .u32 0), (.int .u32 0), (.int .u32 0)] []), none, []⟩,
                  ⟨none, (.store 4 (.t 8) (.t 22)), none, [0, 0]⟩,
                  ⟨(some 9), (.move (.c (.int .i64 4))), none, [1, 0, 1]⟩])
                .ret)
              .skip))
          (.seq
            (.region [
              ⟨(some 24), (.load true 4 (.t 4)), none, []⟩,
              ⟨(some 25), (.move (.t 1)), none, []⟩,
              ⟨(some 26), (.move (.t 2)), none, []⟩,
              ⟨(some 27), (.move (.t 3)), none, []⟩,
              ⟨(some 28), (.call 250 [(.t 24), (.t 25), (.t 26), (.t 27)]), none, [0, 1, 2, 3]⟩,
              ⟨(some 23), (.move (.t 28)), none, [4]⟩,
              ⟨(some 29), (.extract (.t 23) 0), none, [5]⟩,
              ⟨(some 30), (.extract (.t 23) 1), none, [5]⟩,
              ⟨(some 10), (.alloc (some 10) 4 [(.agg [(.int .u32 0), (.int .u32 0), (.int .u32 0), (.int .u32 0)])]), none, []⟩,
              ⟨none, (.store 4 (.t 10) (.t 29)), none, [8, 6, 4, 0, 1, 2, 3, 4, 5, 6, 8]⟩,
              ⟨(some 11), (.move (.t 30)), none, [7, 9, 0, 1, 2, 3, 4, 5, 6, 7, 8, 9]⟩])
            (.seq
              (.seq
                (.region [
                  ⟨(some 31), (.move (.t 11)), none, []⟩,
                  ⟨(some 32), (.un .not (.t 31)), none, [0]⟩])
                (.cond (.t 32)
                  (.seq
                    (.region [
                      ⟨(some 33), (.build [(.int .u32 0), (.int .u32 0), (.int .u32 0), (.int .u32 0)] []), none, []⟩,
                      ⟨none, (.store 4 (.t 8) (.t 33)), none, [0, 0]⟩,
                      ⟨(some 9), (.move (.c (.int .i64 44))), none, [1, 0, 1]⟩])
                    .ret)
                  .skip))
              (.seq
                (.region [
                  ⟨(some 34), (.load true 4 (.t 10)), none, []⟩,
                  ⟨none, (.store 4 (.t 8) (.t 34)), none, [0, 0]⟩,
                  ⟨(some 9), (.move (.c (.int .i64 0))), none, [1, 0, 1]⟩])
                .ret))))))
/-- awardingbody/awardingbodyref40.Leaf -/
def c241 : CFun where
  np := 1
  deep := true
  res := [(.cell 2 true 4)]
  body :=
    (.seq
      (.region [
        ⟨(some 1), (.box none 1 4 (.t 0)), none, []⟩,
        ⟨(some 2), (.alloc (some 2) 4 [(.agg [(.int .u32 0), (.int .u32 0), (.int .u32 0), (.int .u32 0)])]), none, []⟩])
      (.seq
        (.region [
          ⟨(some 3), (.aslice 4 1 (.t 1) none none), none, []⟩,
          ⟨(some 4), (.call 12 [(.c (.int .u32 0)), (.t 3)]), none, [0]⟩,
          ⟨none, (.store 4 (.t 2) (.t 4)), none, [1, 1, 0, 1]⟩])
        .ret))
@[reducible] def d242_0 : List KO := [
  ⟨(some 18), (.move (.t 0)), none, []⟩,
  ⟨(some 19), (.move (.t 3)), none, []⟩,
  ⟨(some 20), (.slice (some 4) (.t 18) none (some (.t 19))), none, [0, 1]⟩,
  ⟨(some 21), (.call 242 [(.t 20)]), none, [2]⟩,
  ⟨(some 22), (.move (.t 0)), none, []⟩,
  ⟨(some 23), (.move (.t 3)), none, []⟩,
  ⟨(some 24), (.slice (some 4) (.t 22) (some (.t 23)) none), none, [4, 5]⟩,
  ⟨(some 25), (.call 242 [(.t 24)]), none, [6, 3]⟩,
  ⟨(some 26), (.call 20 [(.t 21), (.t 25)]), none, [3, 7, 7]⟩,
  ⟨none, (.store 4 (.t 2) (.t 26)), none, [8, 8, 0, 1, 2, 3, 4, 5, 6, 7, 8]⟩]
/-- awardingbody/awardingbodyref40.Root -/
def c242 : CFun where
  np := 1
  deep := true
  res := [(.cell 2 true 4)]
  body :=
    (.seq
      (.region [
        ⟨(some 2), (.alloc (some 2) 4 [(.agg [(.int .u32 0), (.int .u32 0), (.int .u32 0), (.int .u32 0)])]), none, []⟩])
      (.seq
        (.seq
          (.region [
            ⟨(some 4), (.move (.t 0)), none, []⟩,
            ⟨(some 5), (.len false (.t 4)), none, [0]⟩])
          (.block 0 [0, 2]
            (.seq
              (.region [
                ⟨(some 7), (.bin .eql (.t 5) (.c (.int .i64 0))), none, []⟩,
                ⟨(some 6), (.move (.t 7)), none, [0]⟩])
              (.cond (.t 6)
                (.seq
                  (.region [
                    ⟨(some 8), (.call 12 [(.c (.int .u32 2)), (.c (.list true true []))]), none, []⟩,
                    ⟨none, (.store 4 (.t 2) (.t 8)), none, [0, 0, 0]⟩])
                  .ret)
                (.seq
                  (.region [
                    ⟨(some 10), (.bin .eql (.t 5) (.c (.int .i64 1))), none, []⟩,
                    ⟨(some 9), (.move (.t 10)), none, [0]⟩])
                  (.cond (.t 9)
                    (.seq
                      (.region [
                        ⟨(some 11), (.move (.t 0)), none, []⟩,
                        ⟨(some 12), (.iaddr 4 (.t 11) (.c (.int .i64 0))), none, [0]⟩,
                        ⟨(some 13), (.load true 4 (.t 12)), none, [1]⟩,
                        ⟨(some 14), (.call 241 [(.t 13)]), none, [2]⟩,
                        ⟨none, (.store 4 (.t 2) (.t 14)), none, [3, 3, 0, 1, 2, 3]⟩])
                      .ret)
                    .skip))))))
        (.seq
          (.region [
            ⟨(some 15), (.move (.t 0)), none, []⟩,
            ⟨(some 16), (.len false (.t 15)), none, [0]⟩,
            ⟨(some 17), (.call 251 [(.t 16)]), none, [1]⟩,
            ⟨(some 3), (.move (.t 17)), none, [2, 2, 0, 1, 2]⟩])
          (.seq
            (.dregion d242_0)
            .ret))))
theorem rd242_0 (E : Env) (h20 : deepB E 20 = true) (h242 : deepB E 242 = true) (st : St) : Run E (.dregion d242_0) st = regT (runOps E (Call E) d242_0 st) := run_dser (by decide +kernel) (by simp [callsOf, d242_0, h20, h242]) st
def l243_0 : KC :=
  (.seq
    (.seq
      (.region [
        ⟨(some 6), (.move (.t 3)), none, []⟩,
        ⟨(some 7), (.move (.t 0)), none, []⟩,
        ⟨(some 8), (.move (.t 3)), none, []⟩,
        ⟨(some 9), (.bin .sub (.t 7) (.t 8)), none, [1, 2]⟩,
        ⟨(some 10), (.bin .lss (.t 6) (.t 9)), none, [0, 3]⟩])
      (.cond (.t 10)
        .skip
        (.exit 0)))
    (.block 1 [0, 3]
      (.region [
        ⟨(some 11), (.move (.t 3)), none, []⟩,
        ⟨(some 12), (.bin .mul (.t 11) (.c (.int .i64 2))), none, [0]⟩,
        ⟨(some 3), (.move (.t 12)), none, [1, 0, 1]⟩])))
/-- awardingbody/tree.Split -/
def c243 : CFun where
  np := 1
  deep := true
  res := [(.t 2)]
  body :=
    (.seq
      (.region [
        ⟨(some 2), (.move (.c (.int .i64 0))), none, []⟩])
      (.seq
        (.seq
          (.region [
            ⟨(some 4), (.move (.t 0)), none, []⟩,
            ⟨(some 5), (.bin .lss (.t 4) (.c (.int .i64 2))), none, [0]⟩])
          (.cond (.t 5)
            (.seq
              (.region [
                ⟨(some 2), (.move (.c (.int .i64 0))), none, []⟩])
              .ret)
            .skip))
        (.seq
          (.region [
            ⟨(some 3), (.move (.c (.int .i64 1))), none, []⟩])
          (.seq
            (.block 0 [3]
              (.loop [0, 3] l243_0))
            (.seq
              (.region [
                ⟨(some 13), (.move (.t 3)), none, []⟩,
                ⟨(some 2), (.move (.t 13)), none, [0, 0]⟩])
              .ret)))))
/-- awardingbody/tree.Consistency -/
def c244 : CFun where
  np := 2
  deep := true
  res := [(.t 4), (.t 5)]
  body :=
    (.seq
      (.region [
        ⟨(some 4), (.move (.c (.list true true []))), none, []⟩,
        ⟨(some 5), (.move (.c (.int .i64 0))), none, [0]⟩])
      (.seq
        (.block 0 [0, 1]
          (.seq
            (.region [
              ⟨(some 7), (.move (.t 0)), none, []⟩,
              ⟨(some 8), (.len false (.t 7)), none, [0]⟩,
              ⟨(some 9), (.bin .gtr (.t 8) (.c (.int .i64 256))), none, [1]⟩,
              ⟨(some 6), (.move (.t 9)), none, [2]⟩])
            (.cond (.t 6)
              (.seq
                (.region [
                  ⟨(some 4), (.move (.c (.list true true []))), none, []⟩,
                  ⟨(some 5), (.move (.c (.int .i64 3))), none, [0, 0]⟩])
                .ret)
              (.seq
                (.region [
                  ⟨(some 11), (.move (.t 1)), none, []⟩,
                  ⟨(some 12), (.bin .lss (.t 11) (.c (.int .i64 1))), none, [0]⟩,
                  ⟨(some 13), (.move (.t 12)), none, [1]⟩,
                  ⟨(some 14), (.move (.t 1)), (some (13, false)), [2]⟩,
                  ⟨(some 15), (.move (.t 0)), (some (13, false)), [2]⟩,
                  ⟨(some 16), (.len false (.t 15)), (some (13, false)), [4, 2]⟩,
                  ⟨(some 17), (.bin .gtr (.t 14) (.t 16)), (some (13, false)), [3, 5, 2]⟩,
                  ⟨(some 18), (.pick (.t 13) (.c (.bool true)) (.t 17)), none, [2, 6]⟩,
                  ⟨(some 10), (.move (.t 18)), none, [7, 2]⟩])
                (.cond (.t 10)
                  (.seq
                    (.region [
                      ⟨(some 4), (.move (.c (.list true true []))), none, []⟩,
                      ⟨(some 5), (.move (.c (.int .i64 4))), none, [0, 0]⟩])
                    .ret)
                  .skip)))))
        (.seq
          (.region [
            ⟨(some 19), (.move (.t 0)), none, []⟩,
            ⟨(some 20), (.move (.t 1)), none, []⟩,
            ⟨(some 21), (.callo 252 [(.t 19), (.t 20), (.c (.bool true))]), none, [0, 1]⟩,
            ⟨(some 4), (.move (.t 21)), none, [2, 2, 0, 1, 2]⟩,
            ⟨(some 5), (.move (.c (.int .i64 0))), none, [3, 0, 1, 2, 3]⟩])
          .ret)))
/-- awardingbody/tree.Consistent -/
def c245 : CFun where
  np := 5
  deep := true
  res := [(.t 10)]
  body :=
    (.seq
      (.region [
        ⟨(some 7), (.box (some 7) 4 1 (.t 2)), none, []⟩,
        ⟨(some 8), (.box (some 8) 4 1 (.t 3)), none, []⟩,
        ⟨(some 10), (.move (.c (.bool false))), none, []⟩])
      (.seq
        (.seq
          (.region [
            ⟨(some 14), (.move (.t 1)), none, []⟩,
            ⟨(some 15), (.bin .gtr (.t 14) (.c (.int .i64 256))), none, [0]⟩,
            ⟨(some 16), (.move (.t 15)), none, [1]⟩,
            ⟨(some 17), (.move (.t 0)), (some (16, false)), [2]⟩,
            ⟨(some 18), (.bin .lss (.t 17) (.c (.int .i64 1))), (some (16, false)), [3, 2]⟩,
            ⟨(some 19), (.pick (.t 16) (.c (.bool true)) (.t 18)), none, [2, 4]⟩,
            ⟨(some 20), (.move (.t 19)), none, [5, 2]⟩,
            ⟨(some 21), (.move (.t 0)), (some (20, false)), [6]⟩,
            ⟨(some 22), (.move (.t 1)), (some (20, false)), [6]⟩,
            ⟨(some 23), (.bin .gtr (.t 21) (.t 22)), (some (20, false)), [7, 8, 6]⟩,
            ⟨(some 24), (.pick (.t 20) (.c (.bool true)) (.t 23)), none, [6, 9]⟩])
          (.cond (.t 24)
            (.seq
              (.region [
                ⟨(some 10), (.move (.c (.bool false))), none, []⟩])
              .ret)
            .skip))
        (.seq
          (.region [
            ⟨(some 26), (.move (.t 0)), none, []⟩,
            ⟨(some 27), (.move (.t 1)), none, []⟩,
            ⟨(some 28), (.load true 4 (.t 7)), none, []⟩,
            ⟨(some 29), (.move (.t 4)), none, []⟩,
            ⟨(some 30), (.call 253 [(.t 26), (.t 27), (.t 28), (.t 29), (.c (.bool true))]), none, [0, 1, 2, 3]⟩,
            ⟨(some 25), (.move (.t 30)), none, [4]⟩,
            ⟨(some 31), (.extract (.t 25) 0), none, [5]⟩,
            ⟨(some 32), (.extract (.t 25) 1), none, [5]⟩,
            ⟨(some 33), (.extract (.t 25) 2), none, [5]⟩,
            ⟨(some 11), (.alloc (some 11) 4 [(.agg [(.int .u32 0), (.int .u32 0), (.int .u32 0), (.int .u32 0)])]), none, []⟩,
            ⟨(some 12), (.alloc (some 12) 4 [(.agg [(.int .u32 0), (.int .u32 0), (.int .u32 0), (.int .u32 0)])]), none, []⟩,
            ⟨none, (.store 4 (.t 11) (.t 31)), none, [9, 6, 4, 0, 1, 2, 3, 4, 5, 6, 9, 10]⟩,
            ⟨none, (.store 4 (.t 12) (.t 32)), none, [10, 7, 11, 0, 1, 2, 3, 4, 5, 6, 7, 9, 10, 11]⟩,
            ⟨(some 13), (.move (.t 33)), none, [8, 12, 0, 1, 2, 3, 4, 5, 6, 7, 8, 9, 10, 11, 12]⟩])
          (.seq
            (.region [
              ⟨(some 34), (.move (.t 13)), none, []⟩,
              ⟨(some 35), (.move (.t 34)), none, [0]⟩,
              ⟨(some 36), (.load true 4 (.t 11)), (some (35, true)), [1]⟩,
              ⟨(some 37), (.load true 4 (.t 7)), (some (35, true)), [1]⟩,
              ⟨(some 38), (.eqv false true [.i, .i, .i, .i] (.t 36) (.t 37)), (some (35, true)), [2, 3, 1]⟩,
              ⟨(some 39), (.pick (.t 35) (.t 38) (.c (.bool false))), none, [1, 4]⟩,
              ⟨(some 40), (.move (.t 39)), none, [5, 1]⟩,
              ⟨(some 41), (.load true 4 (.t 12)), (some (40, true)), [6]⟩,
              ⟨(some 42), (.load true 4 (.t 8)), (some (40, true)), [6]⟩,
              ⟨(some 43), (.eqv false true [.i, .i, .i, .i] (.t 41) (.t 42)), (some (40, true)), [7, 8, 6]⟩,
              ⟨(some 44), (.pick (.t 40) (.t 43) (.c (.bool false))), none, [6, 9]⟩,
              ⟨(some 10), (.move (.t 44)), none, [10, 6, 0, 1, 2, 3, 4, 5, 6, 7, 8, 9, 10]⟩])
            .ret))))
/-- awardingbody/awardingbodyref40.Consistent -/
def c246 : CFun where
  np := 5
  deep := true
  res := [(.t 10)]
  body :=
    (.seq
      (.region [
        ⟨(some 7), (.box (some 7) 4 1 (.t 2)), none, []⟩,
        ⟨(some 8), (.box (some 8) 4 1 (.t 3)), none, []⟩,
        ⟨(some 10), (.move (.c (.bool false))), none, []⟩])
      (.seq
        (.seq
          (.region [
            ⟨(some 14), (.move (.t 0)), none, []⟩,
            ⟨(some 15), (.bin .lss (.t 14) (.c (.int .i64 1))), none, [0]⟩,
            ⟨(some 16), (.move (.t 15)), none, [1]⟩,
            ⟨(some 17), (.move (.t 0)), (some (16, false)), [2]⟩,
            ⟨(some 18), (.move (.t 1)), (some (16, false)), [2]⟩,
            ⟨(some 19), (.bin .gtr (.t 17) (.t 18)), (some (16, false)), [3, 4, 2]⟩,
            ⟨(some 20), (.pick (.t 16) (.c (.bool true)) (.t 19)), none, [2, 5]⟩,
            ⟨(some 21), (.move (.t 20)), none, [6, 2]⟩,
            ⟨(some 22), (.move (.t 1)), (some (21, false)), [7]⟩,
            ⟨(some 23), (.bin .gtr (.t 22) (.c (.int .i64 256))), (some (21, false)), [8, 7]⟩,
            ⟨(some 24), (.pick (.t 21) (.c (.bool true)) (.t 23)), none, [7, 9]⟩])
          (.cond (.t 24)
            (.seq
              (.region [
                ⟨(some 10), (.move (.c (.bool false))), none, []⟩])
              .ret)
            .skip))
        (.seq
          (.region [
            ⟨(some 26), (.move (.t 0)), none, []⟩,
            ⟨(some 27), (.move (.t 1)), none, []⟩,
            ⟨(some 28), (.load true 4 (.t 7)), none, []⟩,
            ⟨(some 29), (.move (.t 4)), none, []⟩,
            ⟨(some 30), (.call 254 [(.t 26), (.t 27), (.t 28), (.t 29), (.c (.bool true))]), none, [0, 1, 2, 3]⟩,
            ⟨(some 25), (.move (.t 30)), none, [4]⟩,
            ⟨(some 31), (.extract (.t 25) 0), none, [5]⟩,
            ⟨(some 32), (.extract (.t 25) 1), none, [5]⟩,
            ⟨(some 33), (.extract (.t 25) 2), none, [5]⟩,
            ⟨(some 11), (.alloc (some 11) 4 [(.agg [(.int .u32 0), (.int .u32 0), (.int .u32 0), (.int .u32 0)])]), none, []⟩,
            ⟨(some 12), (.alloc (some 12) 4 [(.agg [(.int .u32 0), (.int .u32 0), (.int .u32 0), (.int .u32 0)])]), none, []⟩,
            ⟨none, (.store 4 (.t 11) (.t 31)), none, [9, 6, 4, 0, 1, 2, 3, 4, 5, 6, 9, 10]⟩,
            ⟨none, (.store 4 (.t 12) (.t 32)), none, [10, 7, 11, 0, 1, 2, 3, 4, 5, 6, 7, 9, 10, 11]⟩,
            ⟨(some 13), (.move (.t 33)), none, [8, 12, 0, 1, 2, 3, 4, 5, 6, 7, 8, 9, 10, 11, 12]⟩])
          (.seq
            (.region [
              ⟨(some 34), (.move (.t 13)), none, []⟩,
              ⟨(some 35), (.move (.t 34)), none, [0]⟩,
              ⟨(some 36), (.load true 4 (.t 11)), (some (35, true)), [1]⟩,
              ⟨(some 37), (.load true 4 (.t 7)), (some (35, true)), [1]⟩,
              ⟨(some 38), (.eqv false true [.i, .i, .i, .i] (.t 36) (.t 37)), (some (35, true)), [2, 3, 1]⟩,
              ⟨(some 39), (.pick (.t 35) (.t 38) (.c (.bool false))), none, [1, 4]⟩,
              ⟨(some 40), (.move (.t 39)), none, [5, 1]⟩,
              ⟨(some 41), (.load true 4 (.t 12)), (some (40, true)), [6]⟩,
              ⟨(some 42), (.load true 4 (.t 8)), (some (40, true)), [6]⟩,
              ⟨(some 43), (.eqv false true [.i, .i, .i, .i] (.t 41) (.t 42)), (some (40, true)), [7, 8, 6]⟩,
              ⟨(some 44), (.pick (.t 40) (.t 43) (.c (.bool false))), none, [6, 9]⟩,
              ⟨(some 10), (.move (.t 44)), none, [10, 6, 0, 1, 2, 3, 4, 5, 6, 7, 8, 9, 10]⟩])
            .ret))))
@[reducible] def d247_0 : List KO := [
  ⟨(some 16), (.move (.t 0)), none, []⟩,
  ⟨(some 17), (.move (.t 5)), none, []⟩,
  ⟨(some 18), (.iaddr 4 (.t 16) (.t 17)), none, [0, 1]⟩,
  ⟨(some 19), (.load true 4 (.t 18)), none, [2]⟩,
  ⟨(some 20), (.move (.t 1)), none, []⟩,
  ⟨(some 21), (.move (.t 5)), none, []⟩,
  ⟨(some 22), (.iaddr 4 (.t 20) (.t 21)), none, [4, 5]⟩,
  ⟨(some 23), (.load true 4 (.t 22)), none, [6]⟩,
  ⟨(some 24), (.eqv true true [.i, .i, .i, .i] (.t 19) (.t 23)), none, [3, 7]⟩]
def l247_0 : KC :=
  (.seq
    (.region [
      ⟨(some 14), (.bin .lss (.t 13) (.t 12)), none, []⟩])
    (.seq
      (.cond (.t 14)
        .skip
        (.exit 0))
      (.seq
        (.block 1 [0, 1, 12, 13]
          (.seq
            (.region [
              ⟨(some 15), (.move (.t 13)), none, []⟩,
              ⟨(some 5), (.move (.t 15)), none, [0, 0]⟩])
            (.seq
              (.dregion d247_0)
              (.cond (.t 24)
                (.seq
                  (.region [
                    ⟨(some 4), (.move (.c (.bool false))), none, []⟩])
                  .ret)
                .skip))))
        (.region [
          ⟨(some 25), (.bin .add (.t 13) (.c (.int .i64 1))), none, []⟩,
          ⟨(some 13), (.move (.t 25)), none, [0]⟩]))))
/-- awardingbody/awardingbodylaw40.same -/
def c247 : CFun where
  np := 2
  deep := true
  res := [(.t 4)]
  body :=
    (.seq
      (.region [
        ⟨(some 4), (.move (.c (.bool false))), none, []⟩])
      (.seq
        (.seq
          (.region [
            ⟨(some 6), (.move (.t 0)), none, []⟩,
            ⟨(some 7), (.len false (.t 6)), none, [0]⟩,
            ⟨(some 8), (.move (.t 1)), none, []⟩,
            ⟨(some 9), (.len false (.t 8)), none, [2]⟩,
            ⟨(some 10), (.bin .neq (.t 7) (.t 9)), none, [1, 3]⟩])
          (.cond (.t 10)
            (.seq
              (.region [
                ⟨(some 4), (.move (.c (.bool false))), none, []⟩])
              .ret)
            .skip))
        (.seq
          (.seq
            (.region [
              ⟨(some 11), (.move (.t 0)), none, []⟩,
              ⟨(some 12), (.len false (.t 11)), none, [0]⟩,
              ⟨(some 13), (.move (.c (.int .i64 0))), none, []⟩])
            (.block 0 []
              (.loop [0, 1, 12, 13] l247_0)))
          (.seq
            (.region [
              ⟨(some 4), (.move (.c (.bool true))), none, []⟩])
            .ret))))
theorem rd247_0 (E : Env) (st : St) : Run E (.dregion d247_0) st = regT (runOps E (Call E) d247_0 st) := run_dpure (by decide +kernel) rfl st
@[reducible] def d248_0 : List KO := [
  ⟨(some 15), (.move (.t 0)), none, []⟩,
  ⟨(some 16), (.move (.t 5)), none, []⟩,
  ⟨(some 17), (.slice (some 4) (.t 15) none (some (.t 16))), none, [0, 1]⟩,
  ⟨(some 18), (.move (.t 1)), none, []⟩,
  ⟨(some 19), (.callo 248 [(.t 17), (.t 18)]), none, [2, 3]⟩,
  ⟨(some 20), (.move (.t 0)), none, []⟩,
  ⟨(some 21), (.move (.t 5)), none, []⟩,
  ⟨(some 22), (.slice (some 4) (.t 20) (some (.t 21)) none), none, [5, 6]⟩,
  ⟨(some 23), (.call 239 [(.t 22)]), none, [7, 4]⟩,
  ⟨(some 24), (.lit 4 (.agg [(.int .u32 0), (.int .u32 0), (.int .u32 0), (.int .u32 0)]) 1 [(0, (.t 23))]), none, [8]⟩,
  ⟨(some 25), (.append 4 16 (.t 19) (.t 24)), none, [4, 9, 8]⟩,
  ⟨(some 4), (.move (.t 25)), none, [10, 10, 0, 1, 2, 3, 4, 5, 6, 7, 8, 9, 10]⟩]
@[reducible] def d248_1 : List KO := [
  ⟨(some 26), (.move (.t 0)), none, []⟩,
  ⟨(some 27), (.move (.t 5)), none, []⟩,
  ⟨(some 28), (.slice (some 4) (.t 26) (some (.t 27)) none), none, [0, 1]⟩,
  ⟨(some 29), (.move (.t 1)), none, []⟩,
  ⟨(some 30), (.move (.t 5)), none, []⟩,
  ⟨(some 31), (.bin .sub (.t 29) (.t 30)), none, [3, 4]⟩,
  ⟨(some 32), (.callo 248 [(.t 28), (.t 31)]), none, [2, 5]⟩,
  ⟨(some 33), (.move (.t 0)), none, []⟩,
  ⟨(some 34), (.move (.t 5)), none, []⟩,
  ⟨(some 35), (.slice (some 4) (.t 33) none (some (.t 34))), none, [7, 8]⟩,
  ⟨(some 36), (.call 239 [(.t 35)]), none, [9, 6]⟩,
  ⟨(some 37), (.lit 4 (.agg [(.int .u32 0), (.int .u32 0), (.int .u32 0), (.int .u32 0)]) 1 [(0, (.t 36))]), none, [10]⟩,
  ⟨(some 38), (.append 4 16 (.t 32) (.t 37)), none, [6, 11, 10]⟩,
  ⟨(some 4), (.move (.t 38)), none, [12, 12, 0, 1, 2, 3, 4, 5, 6, 7, 8, 9, 10, 11, 12]⟩]
/-- awardingbody/tree.path -/
def c248 : CFun where
  np := 2
  deep := true
  res := [(.t 4)]
  body :=
    (.seq
      (.region [
        ⟨(some 4), (.move (.c (.list true true []))), none, []⟩])
      (.seq
        (.seq
          (.region [
            ⟨(some 6), (.move (.t 0)), none, []⟩,
            ⟨(some 7), (.len false (.t 6)), none, [0]⟩,
            ⟨(some 8), (.bin .eql (.t 7) (.c (.int .i64 1))), none, [1]⟩])
          (.cond (.t 8)
            (.seq
              (.region [
                ⟨(some 4), (.move (.c (.list true true []))), none, []⟩])
              .ret)
            .skip))
        (.seq
          (.region [
            ⟨(some 9), (.move (.t 0)), none, []⟩,
            ⟨(some 10), (.len false (.t 9)), none, [0]⟩,
            ⟨(some 11), (.call 243 [(.t 10)]), none, [1]⟩,
            ⟨(some 5), (.move (.t 11)), none, [2, 2, 0, 1, 2]⟩])
          (.seq
            (.seq
              (.region [
                ⟨(some 12), (.move (.t 1)), none, []⟩,
                ⟨(some 13), (.move (.t 5)), none, []⟩,
                ⟨(some 14), (.bin .lss (.t 12) (.t 13)), none, [0, 1]⟩])
              (.cond (.t 14)
                (.seq
                  (.dregion d248_0)
                  .ret)
                .skip))
            (.seq
              (.dregion d248_1)
              .ret)))))
-- d248_0: not quiet
-- d248_1: not quiet
@[reducible] def d249_0 : List KO := [
  ⟨(some 40), (.load true 4 (.t 4)), none, []⟩,
  ⟨(some 41), (.move (.t 1)), none, []⟩,
  ⟨(some 42), (.move (.t 10)), none, []⟩,
  ⟨(some 43), (.move (.t 3)), none, []⟩,
  ⟨(some 44), (.move (.t 11)), none, []⟩,
  ⟨(some 45), (.slice (some 4) (.t 43) none (some (.t 44))), none, [3, 4]⟩,
  ⟨(some 46), (.call 249 [(.t 40), (.t 41), (.t 42), (.t 45)]), none, [0, 1, 2, 5]⟩,
  ⟨(some 39), (.move (.t 46)), none, [6]⟩,
  ⟨(some 47), (.extract (.t 39) 0), none, [7]⟩,
  ⟨(some 48), (.extract (.t 39) 1), none, [7]⟩,
  ⟨(some 12), (.alloc none 1 [(.int .u32 0), (.int .u32 0), (.int .u32 0), (.int .u32 0)]), none, []⟩,
  ⟨none, (.store 4 (.t 12) (.t 47)), none, [10, 8, 6, 0, 1, 2, 3, 4, 5, 6, 7, 8, 10]⟩,
  ⟨(some 13), (.move (.t 48)), none, [9, 11, 0, 1, 2, 3, 4, 5, 6, 7, 8, 9, 10, 11]⟩]
@[reducible] def d249_1 : List KO := [
  ⟨(some 49), (.load true 4 (.t 12)), none, []⟩,
  ⟨(some 50), (.move (.t 3)), none, []⟩,
  ⟨(some 51), (.move (.t 11)), none, []⟩,
  ⟨(some 52), (.iaddr 4 (.t 50) (.t 51)), none, [1, 2]⟩,
  ⟨(some 53), (.load true 4 (.t 52)), none, [3]⟩,
  ⟨(some 54), (.call 19 [(.t 49), (.t 53)]), none, [0, 4]⟩,
  ⟨(some 55), (.move (.t 13)), none, []⟩,
  ⟨none, (.store 4 (.t 8) (.t 54)), none, [5, 5, 0, 1, 2, 3, 4, 5]⟩,
  ⟨(some 9), (.move (.t 55)), none, [6, 7, 0, 1, 2, 3, 4, 5, 6, 7]⟩]
@[reducible] def d249_2 : List KO := [
  ⟨(some 57), (.load true 4 (.t 4)), none, []⟩,
  ⟨(some 58), (.move (.t 1)), none, []⟩,
  ⟨(some 59), (.move (.t 10)), none, []⟩,
  ⟨(some 60), (.bin .sub (.t 58) (.t 59)), none, [1, 2]⟩,
  ⟨(some 61), (.move (.t 2)), none, []⟩,
  ⟨(some 62), (.move (.t 10)), none, []⟩,
  ⟨(some 63), (.bin .sub (.t 61) (.t 62)), none, [4, 5]⟩,
  ⟨(some 64), (.move (.t 3)), none, []⟩,
  ⟨(some 65), (.move (.t 11)), none, []⟩,
  ⟨(some 66), (.slice (some 4) (.t 64) none (some (.t 65))), none, [7, 8]⟩,
  ⟨(some 67), (.call 249 [(.t 57), (.t 60), (.t 63), (.t 66)]), none, [0, 3, 6, 9]⟩,
  ⟨(some 56), (.move (.t 67)), none, [10]⟩,
  ⟨(some 68), (.extract (.t 56) 0), none, [11]⟩,
  ⟨(some 69), (.extract (.t 56) 1), none, [11]⟩,
  ⟨(some 14), (.alloc none 1 [(.int .u32 0), (.int .u32 0), (.int .u32 0), (.int .u32 0)]), none, []⟩,
  ⟨none, (.store 4 (.t 14) (.t 68)), none, [14, 12, 10, 0, 1, 2, 3, 4, 5, 6, 7, 8, 9, 10, 11, 12, 14]⟩,
  ⟨(some 15), (.move (.t 69)), none, [13, 15, 0, 1, 2, 3, 4, 5, 6, 7, 8, 9, 10, 11, 12, 13, 14, 15]⟩]
@[reducible] def d249_3 : List KO := [
  ⟨(some 70), (.move (.t 3)), none, []⟩,
  ⟨(some 71), (.move (.t 11)), none, []⟩,
  ⟨(some 72), (.iaddr 4 (.t 70) (.t 71)), none, [0, 1]⟩,
  ⟨(some 73), (.load true 4 (.t 72)), none, [2]⟩,
  ⟨(some 74), (.load true 4 (.t 14)), none, []⟩,
  ⟨(some 75), (.call 19 [(.t 73), (.t 74)]), none, [3, 4]⟩,
  ⟨(some 76), (.move (.t 15)), none, []⟩,
  ⟨none, (.store 4 (.t 8) (.t 75)), none, [5, 5, 0, 1, 2, 3, 4, 5]⟩,
  ⟨(some 9), (.move (.t 76)), none, [6, 7, 0, 1, 2, 3, 4, 5, 6, 7]⟩]
/-- awardingbody/tree.lead -/
def c249 : CFun where
  np := 4
  deep := true
  res := [(.cell 8 true 4), (.t 9)]
  body :=
    (.seq
      (.region [
        ⟨(some 4), (.box (some 4) 4 1 (.t 0)), none, []⟩,
        ⟨(some 8), (.alloc (some 8) 4 [(.agg [(.int .u32 0), (.int .u32 0), (.int .u32 0), (.int .u32 0)])]), none, []⟩,
        ⟨(some 9), (.move (.c (.bool false))), none, []⟩])
      (.seq
        (.seq
          (.region [
            ⟨(some 16), (.move (.t 2)), none, []⟩,
            ⟨(some 17), (.bin .eql (.t 16) (.c (.int .i64 1))), none, [0]⟩,
            ⟨(some 18), (.move (.t 17)), none, [1]⟩,
            ⟨(some 19), (.move (.t 3)), (some (18, false)), [2]⟩,
            ⟨(some 20), (.len false (.t 19)), (some (18, false)), [3, 2]⟩,
            ⟨(some 21), (.bin .eql (.t 20) (.c (.int .i64 0))), (some (18, false)), [4, 2]⟩,
            ⟨(some 22), (.pick (.t 18) (.c (.bool true)) (.t 21)), none, [2, 5]⟩])
          (.cond (.t 22)
            (.seq
              (.region [
                ⟨(some 23), (.load true 4 (.t 4)), none, []⟩,
                ⟨(some 24), (.move (.t 2)), none, []⟩,
                ⟨(some 25), (.bin .eql (.t 24) (.c (.int .i64 1))), none, [1]⟩,
                ⟨(some 26), (.move (.t 25)), none, [2]⟩,
                ⟨(some 27), (.move (.t 3)), (some (26, true)), [3]⟩,
                ⟨(some 28), (.len false (.t 27)), (some (26, true)), [4, 3]⟩,
                ⟨(some 29), (.bin .eql (.t 28) (.c (.int .i64 0))), (some (26, true)), [5, 3]⟩,
                ⟨(some 30), (.pick (.t 26) (.t 29) (.c (.bool false))), none, [3, 6]⟩,
                ⟨none, (.store 4 (.t 8) (.t 23)), none, [0, 3, 0]⟩,
                ⟨(some 9), (.move (.t 30)), none, [7, 8, 0, 1, 2, 3, 4, 5, 6, 7, 8]⟩])
              .ret)
            .skip))
        (.seq
          (.region [
            ⟨(some 31), (.move (.t 2)), none, []⟩,
            ⟨(some 32), (.call 243 [(.t 31)]), none, [0]⟩,
            ⟨(some 33), (.move (.t 3)), none, []⟩,
            ⟨(some 34), (.len false (.t 33)), none, [2]⟩,
            ⟨(some 35), (.bin .sub (.t 34) (.c (.int .i64 1))), none, [3]⟩,
            ⟨(some 10), (.move (.t 32)), none, [1, 1, 0, 1]⟩,
            ⟨(some 11), (.move (.t 35)), none, [4, 5, 0, 1, 2, 3, 4, 5]⟩])
          (.seq
            (.seq
              (.region [
                ⟨(some 36), (.move (.t 1)), none, []⟩,
                ⟨(some 37), (.move (.t 10)), none, []⟩,
                ⟨(some 38), (.bin .lss (.t 36) (.t 37)), none, [0, 1]⟩])
              (.cond (.t 38)
                (.seq
                  (.dregion d249_0)
                  (.seq
                    (.dregion d249_1)
                    .ret))
                .skip))
            (.seq
              (.dregion d249_2)
              (.seq
                (.dregion d249_3)
                .ret))))))
-- d249_0: not quiet
theorem rd249_1 (E : Env) (h19 : deepB E 19 = true) (st : St) : Run E (.dregion d249_1) st = regT (runOps E (Call E) d249_1 st) := run_dser (by decide +kernel) (by simp [callsOf, d249_1, h19]) st
-- d249_2: not quiet
theorem rd249_3 (E : Env) (h19 : deepB E 19 = true) (st : St) : Run E (.dregion d249_3) st = regT (runOps E (Call E) d249_3 st) := run_dser (by decide +kernel) (by simp [callsOf, d249_3, h19]) st
@[reducible] def d250_0 : List KO := [
  ⟨(some 26), (.move (.t 2)), none, []⟩,
  ⟨(some 27), (.call 251 [(.t 26)]), none, [0]⟩,
  ⟨(some 28), (.move (.t 3)), none, []⟩,
  ⟨(some 29), (.move (.t 3)), none, []⟩,
  ⟨(some 30), (.len false (.t 29)), none, [3]⟩,
  ⟨(some 31), (.bin .sub (.t 30) (.c (.int .i64 1))), none, [4]⟩,
  ⟨(some 32), (.iaddr 4 (.t 28) (.t 31)), none, [2, 5]⟩,
  ⟨(some 33), (.load true 4 (.t 32)), none, [6]⟩,
  ⟨(some 11), (.alloc none 1 [(.int .u32 0), (.int .u32 0), (.int .u32 0), (.int .u32 0)]), none, []⟩,
  ⟨(some 10), (.move (.t 27)), none, [1, 1, 0, 1, 8]⟩,
  ⟨none, (.store 4 (.t 11) (.t 33)), none, [8, 7, 9, 0, 1, 2, 3, 4, 5, 6, 7, 8, 9]⟩]
@[reducible] def d250_1 : List KO := [
  ⟨(some 38), (.load true 4 (.t 4)), none, []⟩,
  ⟨(some 39), (.move (.t 1)), none, []⟩,
  ⟨(some 40), (.move (.t 10)), none, []⟩,
  ⟨(some 41), (.move (.t 3)), none, []⟩,
  ⟨(some 42), (.move (.t 3)), none, []⟩,
  ⟨(some 43), (.len false (.t 42)), none, [4]⟩,
  ⟨(some 44), (.bin .sub (.t 43) (.c (.int .i64 1))), none, [5]⟩,
  ⟨(some 45), (.slice (some 4) (.t 41) none (some (.t 44))), none, [3, 6]⟩,
  ⟨(some 46), (.call 250 [(.t 38), (.t 39), (.t 40), (.t 45)]), none, [0, 1, 2, 7]⟩,
  ⟨(some 37), (.move (.t 46)), none, [8]⟩,
  ⟨(some 47), (.extract (.t 37) 0), none, [9]⟩,
  ⟨(some 48), (.extract (.t 37) 1), none, [9]⟩,
  ⟨(some 12), (.alloc none 1 [(.int .u32 0), (.int .u32 0), (.int .u32 0), (.int .u32 0)]), none, []⟩,
  ⟨none, (.store 4 (.t 12) (.t 47)), none, [12, 10, 8, 0, 1, 2, 3, 4, 5, 6, 7, 8, 9, 10, 12]⟩,
  ⟨(some 13), (.move (.t 48)), none, [11, 13, 0, 1, 2, 3, 4, 5, 6, 7, 8, 9, 10, 11, 12, 13]⟩]
@[reducible] def d250_2 : List KO := [
  ⟨(some 54), (.load true 4 (.t 4)), none, []⟩,
  ⟨(some 55), (.move (.t 1)), none, []⟩,
  ⟨(some 56), (.move (.t 10)), none, []⟩,
  ⟨(some 57), (.bin .sub (.t 55) (.t 56)), none, [1, 2]⟩,
  ⟨(some 58), (.move (.t 2)), none, []⟩,
  ⟨(some 59), (.move (.t 10)), none, []⟩,
  ⟨(some 60), (.bin .sub (.t 58) (.t 59)), none, [4, 5]⟩,
  ⟨(some 61), (.move (.t 3)), none, []⟩,
  ⟨(some 62), (.move (.t 3)), none, []⟩,
  ⟨(some 63), (.len false (.t 62)), none, [8]⟩,
  ⟨(some 64), (.bin .sub (.t 63) (.c (.int .i64 1))), none, [9]⟩,
  ⟨(some 65), (.slice (some 4) (.t 61) none (some (.t 64))), none, [7, 10]⟩,
  ⟨(some 66), (.call 250 [(.t 54), (.t 57), (.t 60), (.t 65)]), none, [0, 3, 6, 11]⟩,
  ⟨(some 53), (.move (.t 66)), none, [12]⟩,
  ⟨(some 67), (.extract (.t 53) 0), none, [13]⟩,
  ⟨(some 68), (.extract (.t 53) 1), none, [13]⟩,
  ⟨(some 14), (.alloc none 1 [(.int .u32 0), (.int .u32 0), (.int .u32 0), (.int .u32 0)]), none, []⟩,
  ⟨none, (.store 4 (.t 14) (.t 67)), none, [16, 14, 12, 0, 1, 2, 3, 4, 5, 6, 7, 8, 9, 10, 11, 12, 13, 14, 16]⟩,
  ⟨(some 15), (.move (.t 68)), none, [15, 17, 0, 1, 2, 3, 4, 5, 6, 7, 8, 9, 10, 11, 12, 13, 14, 15, 16, 17]⟩]
/-- awardingbody/awardingbodyref40.lead -/
def c250 : CFun where
  np := 4
  deep := true
  res := [(.cell 8 true 4), (.t 9)]
  body :=
    (.seq
      (.region [
        ⟨(some 4), (.box (some 4) 4 1 (.t 0)), none, []⟩,
        ⟨(some 8), (.alloc (some 8) 4 [(.agg [(.int .u32 0), (.int .u32 0), (.int .u32 0), (.int .u32 0)])]), none, []⟩,
        ⟨(some 9), (.move (.c (.bool false))), none, []⟩])
      (.seq
        (.seq
          (.region [
            ⟨(some 16), (.move (.t 2)), none, []⟩,
            ⟨(some 17), (.bin .eql (.t 16) (.c (.int .i64 1))), none, [0]⟩])
          (.cond (.t 17)
            (.seq
              (.region [
                ⟨(some 18), (.load true 4 (.t 4)), none, []⟩,
                ⟨(some 19), (.move (.t 3)), none, []⟩,
                ⟨(some 20), (.len false (.t 19)), none, [1]⟩,
                ⟨(some 21), (.bin .eql (.t 20) (.c (.int .i64 0))), none, [2]⟩,
                ⟨none, (.store 4 (.t 8) (.t 18)), none, [0, 0]⟩,
                ⟨(some 9), (.move (.t 21)), none, [3, 4, 0, 1, 2, 3, 4]⟩])
              .ret)
            .skip))
        (.seq
          (.seq
            (.region [
              ⟨(some 22), (.move (.t 3)), none, []⟩,
              ⟨(some 23), (.len false (.t 22)), none, [0]⟩,
              ⟨(some 24), (.bin .eql (.t 23) (.c (.int .i64 0))), none, [1]⟩])
            (.cond (.t 24)
              (.seq
                (.region [
                  ⟨(some 25), (.build [(.int .u32 0), (.int .u32 0), (.int .u32 0), (.int .u32 0)] []), none, []⟩,
                  ⟨none, (.store 4 (.t 8) (.t 25)), none, [0, 0]⟩,
                  ⟨(some 9), (.move (.c (.bool false))), none, [1, 0, 1]⟩])
                .ret)
              .skip))
          (.seq
            (.dregion d250_0)
            (.seq
              (.seq
                (.region [
                  ⟨(some 34), (.move (.t 1)), none, []⟩,
                  ⟨(some 35), (.move (.t 10)), none, []⟩,
                  ⟨(some 36), (.bin .lss (.t 34) (.t 35)), none, [0, 1]⟩])
                (.cond (.t 36)
                  (.seq
                    (.dregion d250_1)
                    (.seq
                      (.region [
                        ⟨(some 49), (.load true 4 (.t 12)), none, []⟩,
                        ⟨(some 50), (.load true 4 (.t 11)), none, []⟩,
                        ⟨(some 51), (.call 20 [(.t 49), (.t 50)]), none, [0, 1]⟩,
                        ⟨(some 52), (.move (.t 13)), none, []⟩,
                        ⟨none, (.store 4 (.t 8) (.t 51)), none, [2, 2, 0, 1, 2]⟩,
                        ⟨(some 9), (.move (.t 52)), none, [3, 4, 0, 1, 2, 3, 4]⟩])
                      .ret))
                  .skip))
              (.seq
                (.dregion d250_2)
                (.seq
                  (.region [
                    ⟨(some 69), (.load true 4 (.t 11)), none, []⟩,
                    ⟨(some 70), (.load true 4 (.t 14)), none, []⟩,
                    ⟨(some 71), (.call 20 [(.t 69), (.t 70)]), none, [0, 1]⟩,
                    ⟨(some 72), (.move (.t 15)), none, []⟩,
                    ⟨none, (.store 4 (.t 8) (.t 71)), none, [2, 2, 0, 1, 2]⟩,
                    ⟨(some 9), (.move (.t 72)), none, [3, 4, 0, 1, 2, 3, 4]⟩])
                  .ret)))))))
-- d250_0: not quiet
-- d250_1: not quiet
-- d250_2: not quiet
def l251_0 : KC :=
  (.seq
    (.seq
      (.region [
        ⟨(some 6), (.move (.t 3)), none, []⟩,
        ⟨(some 7), (.move (.t 0)), none, []⟩,
        ⟨(some 8), (.move (.t 3)), none, []⟩,
        ⟨(some 9), (.bin .sub (.t 7) (.t 8)), none, [1, 2]⟩,
        ⟨(some 10), (.bin .lss (.t 6) (.t 9)), none, [0, 3]⟩])
      (.cond (.t 10)
        .skip
        (.exit 0)))
    (.block 1 [0, 3]
      (.region [
        ⟨(some 11), (.move (.t 3)), none, []⟩,
        ⟨(some 12), (.bin .mul (.t 11) (.c (.int .i64 2))), none, [0]⟩,
        ⟨(some 3), (.move (.t 12)), none, [1, 0, 1]⟩])))
/-- awardingbody/awardingbodyref40.Split -/
def c251 : CFun where
  np := 1
  deep := true
  res := [(.t 2)]
  body :=
    (.seq
      (.region [
        ⟨(some 2), (.move (.c (.int .i64 0))), none, []⟩])
      (.seq
        (.seq
          (.region [
            ⟨(some 4), (.move (.t 0)), none, []⟩,
            ⟨(some 5), (.bin .lss (.t 4) (.c (.int .i64 2))), none, [0]⟩])
          (.cond (.t 5)
            (.seq
              (.region [
                ⟨(some 2), (.move (.c (.int .i64 0))), none, []⟩])
              .ret)
            .skip))
        (.seq
          (.region [
            ⟨(some 3), (.move (.c (.int .i64 1))), none, []⟩])
          (.seq
            (.block 0 [3]
              (.loop [0, 3] l251_0))
            (.seq
              (.region [
                ⟨(some 13), (.move (.t 3)), none, []⟩,
                ⟨(some 2), (.move (.t 13)), none, [0, 0]⟩])
              .ret)))))
@[reducible] def d252_0 : List KO := [
  ⟨(some 44), (.move (.t 0)), none, []⟩,
  ⟨(some 45), (.move (.t 7)), none, []⟩,
  ⟨(some 46), (.slice (some 4) (.t 44) none (some (.t 45))), none, [0, 1]⟩,
  ⟨(some 47), (.move (.t 1)), none, []⟩,
  ⟨(some 48), (.move (.t 2)), none, []⟩,
  ⟨(some 49), (.callo 252 [(.t 46), (.t 47), (.t 48)]), none, [2, 3, 4]⟩,
  ⟨(some 50), (.move (.t 0)), none, []⟩,
  ⟨(some 51), (.move (.t 7)), none, []⟩,
  ⟨(some 52), (.slice (some 4) (.t 50) (some (.t 51)) none), none, [6, 7]⟩,
  ⟨(some 53), (.call 239 [(.t 52)]), none, [8, 5]⟩,
  ⟨(some 54), (.lit 4 (.agg [(.int .u32 0), (.int .u32 0), (.int .u32 0), (.int .u32 0)]) 1 [(0, (.t 53))]), none, [9]⟩,
  ⟨(some 55), (.append 4 16 (.t 49) (.t 54)), none, [5, 10, 9]⟩,
  ⟨(some 6), (.move (.t 55)), none, [11, 11, 0, 1, 2, 3, 4, 5, 6, 7, 8, 9, 10, 11]⟩]
@[reducible] def d252_1 : List KO := [
  ⟨(some 11), (.move (.t 0)), none, []⟩,
  ⟨(some 12), (.move (.t 7)), none, []⟩,
  ⟨(some 13), (.slice (some 4) (.t 11) (some (.t 12)) none), none, [0, 1]⟩,
  ⟨(some 14), (.move (.t 1)), none, []⟩,
  ⟨(some 15), (.move (.t 7)), none, []⟩,
  ⟨(some 16), (.bin .sub (.t 14) (.t 15)), none, [3, 4]⟩,
  ⟨(some 17), (.callo 252 [(.t 13), (.t 16), (.c (.bool false))]), none, [2, 5]⟩,
  ⟨(some 18), (.move (.t 0)), none, []⟩,
  ⟨(some 19), (.move (.t 7)), none, []⟩,
  ⟨(some 20), (.slice (some 4) (.t 18) none (some (.t 19))), none, [7, 8]⟩,
  ⟨(some 21), (.call 239 [(.t 20)]), none, [9, 6]⟩,
  ⟨(some 22), (.lit 4 (.agg [(.int .u32 0), (.int .u32 0), (.int .u32 0), (.int .u32 0)]) 1 [(0, (.t 21))]), none, [10]⟩,
  ⟨(some 23), (.append 4 16 (.t 17) (.t 22)), none, [6, 11, 10]⟩,
  ⟨(some 6), (.move (.t 23)), none, [12, 12, 0, 1, 2, 3, 4, 5, 6, 7, 8, 9, 10, 11, 12]⟩]
/-- awardingbody/tree.consistency -/
def c252 : CFun where
  np := 3
  deep := true
  res := [(.t 6)]
  body :=
    (.seq
      (.region [
        ⟨(some 6), (.move (.c (.list true true []))), none, []⟩])
      (.seq
        (.region [
          ⟨(some 8), (.move (.t 0)), none, []⟩,
          ⟨(some 9), (.len false (.t 8)), none, [0]⟩,
          ⟨(some 10), (.call 243 [(.t 9)]), none, [1]⟩,
          ⟨(some 7), (.move (.t 10)), none, [2, 2, 0, 1, 2]⟩])
        (.block 0 [6]
          (.seq
            (.region [
              ⟨(some 25), (.move (.t 1)), none, []⟩,
              ⟨(some 26), (.move (.t 0)), none, []⟩,
              ⟨(some 27), (.len false (.t 26)), none, [1]⟩,
              ⟨(some 28), (.bin .eql (.t 25) (.t 27)), none, [0, 2]⟩,
              ⟨(some 29), (.move (.t 28)), none, [3]⟩,
              ⟨(some 30), (.move (.t 2)), (some (29, true)), [4]⟩,
              ⟨(some 31), (.pick (.t 29) (.t 30) (.c (.bool false))), none, [4, 5]⟩,
              ⟨(some 24), (.move (.t 31)), none, [6, 4]⟩])
            (.cond (.t 24)
              (.seq
                (.region [
                  ⟨(some 6), (.move (.c (.list true true []))), none, []⟩])
                .ret)
              (.seq
                (.region [
                  ⟨(some 33), (.move (.t 1)), none, []⟩,
                  ⟨(some 34), (.move (.t 0)), none, []⟩,
                  ⟨(some 35), (.len false (.t 34)), none, [1]⟩,
                  ⟨(some 36), (.bin .eql (.t 33) (.t 35)), none, [0, 2]⟩,
                  ⟨(some 32), (.move (.t 36)), none, [3]⟩])
                (.cond (.t 32)
                  (.seq
                    (.region [
                      ⟨(some 37), (.move (.t 0)), none, []⟩,
                      ⟨(some 38), (.call 239 [(.t 37)]), none, [0]⟩,
                      ⟨(some 39), (.lit 4 (.agg [(.int .u32 0), (.int .u32 0), (.int .u32 0), (.int .u32 0)]) 1 [(0, (.t 38))]), none, [1]⟩,
                      ⟨(some 6), (.move (.t 39)), none, [2, 1, 0, 1, 2]⟩])
                    .ret)
                  (.seq
                    (.region [
                      ⟨(some 41), (.move (.t 1)), none, []⟩,
                      ⟨(some 42), (.move (.t 7)), none, []⟩,
                      ⟨(some 43), (.bin .leq (.t 41) (.t 42)), none, [0, 1]⟩,
                      ⟨(some 40), (.move (.t 43)), none, [2]⟩])
                    (.cond (.t 40)
                      (.seq
                        (.dregion d252_0)
                        .ret)
                      (.seq
                        (.dregion d252_1)
                        .ret))))))))))
-- d252_0: not quiet
-- d252_1: not quiet
@[reducible] def d253_0 : List KO := [
  ⟨(some 22), (.load true 4 (.t 7)), none, []⟩,
  ⟨(some 23), (.load true 4 (.t 7)), none, []⟩,
  ⟨(some 24), (.move (.t 3)), none, []⟩,
  ⟨(some 25), (.len false (.t 24)), none, [2]⟩,
  ⟨(some 26), (.bin .eql (.t 25) (.c (.int .i64 0))), none, [3]⟩,
  ⟨none, (.store 4 (.t 10) (.t 22)), none, [0, 0]⟩,
  ⟨none, (.store 4 (.t 11) (.t 23)), none, [1, 5, 0, 1, 5]⟩,
  ⟨(some 12), (.move (.t 26)), none, [4, 6, 0, 1, 2, 3, 4, 5, 6]⟩]
@[reducible] def d253_1 : List KO := [
  ⟨(some 31), (.load true 4 (.t 10)), none, []⟩,
  ⟨(some 32), (.load true 4 (.t 11)), none, []⟩,
  ⟨none, (.store 4 (.t 10) (.t 31)), none, [0, 0]⟩,
  ⟨none, (.store 4 (.t 11) (.t 32)), none, [1, 2, 0, 1, 2]⟩,
  ⟨(some 12), (.move (.c (.bool false))), none, [3, 0, 1, 2, 3]⟩]
@[reducible] def d253_2 : List KO := [
  ⟨(some 37), (.move (.t 3)), none, []⟩,
  ⟨(some 38), (.iaddr 4 (.t 37) (.c (.int .i64 0))), none, [0]⟩,
  ⟨(some 39), (.load true 4 (.t 38)), none, [1]⟩,
  ⟨(some 40), (.move (.t 3)), none, []⟩,
  ⟨(some 41), (.iaddr 4 (.t 40) (.c (.int .i64 0))), none, [3]⟩,
  ⟨(some 42), (.load true 4 (.t 41)), none, [4]⟩,
  ⟨(some 43), (.move (.t 3)), none, []⟩,
  ⟨(some 44), (.len false (.t 43)), none, [6]⟩,
  ⟨(some 45), (.bin .eql (.t 44) (.c (.int .i64 1))), none, [7]⟩,
  ⟨none, (.store 4 (.t 10) (.t 39)), none, [2, 0, 1, 2]⟩,
  ⟨none, (.store 4 (.t 11) (.t 42)), none, [5, 9, 0, 1, 2, 3, 4, 5, 9]⟩,
  ⟨(some 12), (.move (.t 45)), none, [8, 10, 0, 1, 2, 3, 4, 5, 6, 7, 8, 9, 10]⟩]
@[reducible] def d253_3 : List KO := [
  ⟨(some 55), (.move (.t 0)), none, []⟩,
  ⟨(some 56), (.move (.t 13)), none, []⟩,
  ⟨(some 57), (.load true 4 (.t 7)), none, []⟩,
  ⟨(some 58), (.move (.t 3)), none, []⟩,
  ⟨(some 59), (.move (.t 14)), none, []⟩,
  ⟨(some 60), (.slice (some 4) (.t 58) none (some (.t 59))), none, [3, 4]⟩,
  ⟨(some 61), (.move (.t 4)), none, []⟩,
  ⟨(some 62), (.call 253 [(.t 55), (.t 56), (.t 57), (.t 60), (.t 61)]), none, [0, 1, 2, 5, 6]⟩,
  ⟨(some 54), (.move (.t 62)), none, [7]⟩,
  ⟨(some 63), (.extract (.t 54) 0), none, [8]⟩,
  ⟨(some 64), (.extract (.t 54) 1), none, [8]⟩,
  ⟨(some 65), (.extract (.t 54) 2), none, [8]⟩,
  ⟨none, (.store 4 (.t 10) (.t 63)), none, [9, 7, 0, 1, 2, 3, 4, 5, 6, 7, 8, 9]⟩,
  ⟨none, (.store 4 (.t 11) (.t 64)), none, [10, 12, 0, 1, 2, 3, 4, 5, 6, 7, 8, 9, 10, 12]⟩,
  ⟨(some 12), (.move (.t 65)), none, [11, 13, 0, 1, 2, 3, 4, 5, 6, 7, 8, 9, 10, 11, 12, 13]⟩]
@[reducible] def d253_4 : List KO := [
  ⟨(some 66), (.load true 4 (.t 10)), none, []⟩,
  ⟨(some 67), (.load true 4 (.t 11)), none, []⟩,
  ⟨(some 68), (.move (.t 3)), none, []⟩,
  ⟨(some 69), (.move (.t 14)), none, []⟩,
  ⟨(some 70), (.iaddr 4 (.t 68) (.t 69)), none, [2, 3]⟩,
  ⟨(some 71), (.load true 4 (.t 70)), none, [4]⟩,
  ⟨(some 72), (.call 19 [(.t 67), (.t 71)]), none, [1, 5]⟩,
  ⟨(some 73), (.move (.t 12)), none, []⟩,
  ⟨none, (.store 4 (.t 10) (.t 66)), none, [0, 6, 0]⟩,
  ⟨none, (.store 4 (.t 11) (.t 72)), none, [6, 8, 0, 1, 2, 3, 4, 5, 6, 8]⟩,
  ⟨(some 12), (.move (.t 73)), none, [7, 9, 0, 1, 2, 3, 4, 5, 6, 7, 8, 9]⟩]
@[reducible] def d253_5 : List KO := [
  ⟨(some 75), (.move (.t 0)), none, []⟩,
  ⟨(some 76), (.move (.t 13)), none, []⟩,
  ⟨(some 77), (.bin .sub (.t 75) (.t 76)), none, [0, 1]⟩,
  ⟨(some 78), (.move (.t 1)), none, []⟩,
  ⟨(some 79), (.move (.t 13)), none, []⟩,
  ⟨(some 80), (.bin .sub (.t 78) (.t 79)), none, [3, 4]⟩,
  ⟨(some 81), (.load true 4 (.t 7)), none, []⟩,
  ⟨(some 82), (.move (.t 3)), none, []⟩,
  ⟨(some 83), (.move (.t 14)), none, []⟩,
  ⟨(some 84), (.slice (some 4) (.t 82) none (some (.t 83))), none, [7, 8]⟩,
  ⟨(some 85), (.call 253 [(.t 77), (.t 80), (.t 81), (.t 84), (.c (.bool false))]), none, [2, 5, 6, 9]⟩,
  ⟨(some 74), (.move (.t 85)), none, [10]⟩,
  ⟨(some 86), (.extract (.t 74) 0), none, [11]⟩,
  ⟨(some 87), (.extract (.t 74) 1), none, [11]⟩,
  ⟨(some 88), (.extract (.t 74) 2), none, [11]⟩,
  ⟨none, (.store 4 (.t 10) (.t 86)), none, [12, 10, 0, 1, 2, 3, 4, 5, 6, 7, 8, 9, 10, 11, 12]⟩,
  ⟨none, (.store 4 (.t 11) (.t 87)), none, [13, 15, 0, 1, 2, 3, 4, 5, 6, 7, 8, 9, 10, 11, 12, 13, 15]⟩,
  ⟨(some 12), (.move (.t 88)), none, [14, 16, 0, 1, 2, 3, 4, 5, 6, 7, 8, 9, 10, 11, 12, 13, 14, 15, 16]⟩]
@[reducible] def d253_6 : List KO := [
  ⟨(some 89), (.move (.t 3)), none, []⟩,
  ⟨(some 90), (.move (.t 14)), none, []⟩,
  ⟨(some 91), (.iaddr 4 (.t 89) (.t 90)), none, [0, 1]⟩,
  ⟨(some 92), (.load true 4 (.t 91)), none, [2]⟩,
  ⟨(some 93), (.load true 4 (.t 10)), none, []⟩,
  ⟨(some 94), (.call 19 [(.t 92), (.t 93)]), none, [3, 4]⟩,
  ⟨(some 95), (.move (.t 3)), none, []⟩,
  ⟨(some 96), (.move (.t 14)), none, []⟩,
  ⟨(some 97), (.iaddr 4 (.t 95) (.t 96)), none, [6, 7]⟩,
  ⟨(some 98), (.load true 4 (.t 97)), none, [8]⟩,
  ⟨(some 99), (.load true 4 (.t 11)), none, []⟩,
  ⟨(some 100), (.call 19 [(.t 98), (.t 99)]), none, [9, 10, 5]⟩,
  ⟨(some 101), (.move (.t 12)), none, []⟩,
  ⟨none, (.store 4 (.t 10) (.t 94)), none, [5, 11, 0, 1, 2, 3, 4, 5]⟩,
  ⟨none, (.store 4 (.t 11) (.t 100)), none, [11, 13, 0, 1, 2, 3, 4, 5, 6, 7, 8, 9, 10, 11, 13]⟩,
  ⟨(some 12), (.move (.t 101)), none, [12, 14, 0, 1, 2, 3, 4, 5, 6, 7, 8, 9, 10, 11, 12, 13, 14]⟩]
/-- awardingbody/tree.roots -/
def c253 : CFun where
  np := 5
  deep := true
  res := [(.cell 10 true 4), (.cell 11 true 4), (.t 12)]
  body :=
    (.seq
      (.region [
        ⟨(some 7), (.box (some 7) 4 1 (.t 2)), none, []⟩,
        ⟨(some 10), (.alloc (some 10) 4 [(.agg [(.int .u32 0), (.int .u32 0), (.int .u32 0), (.int .u32 0)])]), none, []⟩,
        ⟨(some 11), (.alloc (some 11) 4 [(.agg [(.int .u32 0), (.int .u32 0), (.int .u32 0), (.int .u32 0)])]), none, []⟩,
        ⟨(some 12), (.move (.c (.bool false))), none, []⟩])
      (.seq
        (.block 0 [0, 1, 3, 4, 7, 10, 11]
          (.seq
            (.region [
              ⟨(some 16), (.move (.t 0)), none, []⟩,
              ⟨(some 17), (.move (.t 1)), none, []⟩,
              ⟨(some 18), (.bin .eql (.t 16) (.t 17)), none, [0, 1]⟩,
              ⟨(some 19), (.move (.t 18)), none, [2]⟩,
              ⟨(some 20), (.move (.t 4)), (some (19, true)), [3]⟩,
              ⟨(some 21), (.pick (.t 19) (.t 20) (.c (.bool false))), none, [3, 4]⟩,
              ⟨(some 15), (.move (.t 21)), none, [5, 3]⟩])
            (.cond (.t 15)
              (.seq
                (.dregion d253_0)
                .ret)
              (.seq
                (.region [
                  ⟨(some 28), (.move (.t 3)), none, []⟩,
                  ⟨(some 29), (.len false (.t 28)), none, [0]⟩,
                  ⟨(some 30), (.bin .eql (.t 29) (.c (.int .i64 0))), none, [1]⟩,
                  ⟨(some 27), (.move (.t 30)), none, [2]⟩])
                (.cond (.t 27)
                  (.seq
                    (.dregion d253_1)
                    .ret)
                  (.seq
                    (.region [
                      ⟨(some 34), (.move (.t 0)), none, []⟩,
                      ⟨(some 35), (.move (.t 1)), none, []⟩,
                      ⟨(some 36), (.bin .eql (.t 34) (.t 35)), none, [0, 1]⟩,
                      ⟨(some 33), (.move (.t 36)), none, [2]⟩])
                    (.cond (.t 33)
                      (.seq
                        (.dregion d253_2)
                        .ret)
                      .skip)))))))
        (.seq
          (.region [
            ⟨(some 46), (.move (.t 1)), none, []⟩,
            ⟨(some 47), (.call 243 [(.t 46)]), none, [0]⟩,
            ⟨(some 48), (.move (.t 3)), none, []⟩,
            ⟨(some 49), (.len false (.t 48)), none, [2]⟩,
            ⟨(some 50), (.bin .sub (.t 49) (.c (.int .i64 1))), none, [3]⟩,
            ⟨(some 13), (.move (.t 47)), none, [1, 1, 0, 1]⟩,
            ⟨(some 14), (.move (.t 50)), none, [4, 5, 0, 1, 2, 3, 4, 5]⟩])
          (.seq
            (.seq
              (.region [
                ⟨(some 51), (.move (.t 0)), none, []⟩,
                ⟨(some 52), (.move (.t 13)), none, []⟩,
                ⟨(some 53), (.bin .leq (.t 51) (.t 52)), none, [0, 1]⟩])
              (.cond (.t 53)
                (.seq
                  (.dregion d253_3)
                  (.seq
                    (.dregion d253_4)
                    .ret))
                .skip))
            (.seq
              (.dregion d253_5)
              (.seq
                (.dregion d253_6)
                .ret))))))
-- d253_0: not quiet
-- d253_1: not quiet
-- d253_2: not quiet
theorem rd253_3 (E : Env) (h253 : deepB E 253 = true) (st : St) : Run E (.dregion d253_3) st = regT (runOps E (Call E) d253_3 st) := run_dser (by decide +kernel) (by simp [callsOf, d253_3, h253]) st
theorem rd253_4 (E : Env) (h19 : deepB E 19 = true) (st : St) : Run E (.dregion d253_4) st = regT (runOps E (Call E) d253_4 st) := run_dser (by decide +kernel) (by simp [callsOf, d253_4, h19]) st
theorem rd253_5 (E : Env) (h253 : deepB E 253 = true) (st : St) : Run E (.dregion d253_5) st = regT (runOps E (Call E) d253_5 st) := run_dser (by decide +kernel) (by simp [callsOf, d253_5, h253]) st
theorem rd253_6 (E : Env) (h19 : deepB E 19 = true) (st : St) : Run E (.dregion d253_6) st = regT (runOps E (Call E) d253_6 st) := run_dser (by decide +kernel) (by simp [callsOf, d253_6, h19]) st
@[reducible] def d254_0 : List KO := [
  ⟨(some 25), (.load true 4 (.t 7)), none, []⟩,
  ⟨(some 26), (.load true 4 (.t 7)), none, []⟩,
  ⟨(some 27), (.move (.t 3)), none, []⟩,
  ⟨(some 28), (.len false (.t 27)), none, [2]⟩,
  ⟨(some 29), (.bin .eql (.t 28) (.c (.int .i64 0))), none, [3]⟩,
  ⟨none, (.store 4 (.t 10) (.t 25)), none, [0, 0]⟩,
  ⟨none, (.store 4 (.t 11) (.t 26)), none, [1, 5, 0, 1, 5]⟩,
  ⟨(some 12), (.move (.t 29)), none, [4, 6, 0, 1, 2, 3, 4, 5, 6]⟩]
@[reducible] def d254_1 : List KO := [
  ⟨(some 35), (.move (.t 3)), none, []⟩,
  ⟨(some 36), (.iaddr 4 (.t 35) (.c (.int .i64 0))), none, [0]⟩,
  ⟨(some 37), (.load true 4 (.t 36)), none, [1]⟩,
  ⟨(some 38), (.move (.t 3)), none, []⟩,
  ⟨(some 39), (.iaddr 4 (.t 38) (.c (.int .i64 0))), none, [3]⟩,
  ⟨(some 40), (.load true 4 (.t 39)), none, [4]⟩,
  ⟨none, (.store 4 (.t 10) (.t 37)), none, [2, 0, 1, 2]⟩,
  ⟨none, (.store 4 (.t 11) (.t 40)), none, [5, 6, 0, 1, 2, 3, 4, 5, 6]⟩,
  ⟨(some 12), (.move (.c (.bool true))), none, [7, 0, 1, 2, 3, 4, 5, 6, 7]⟩]
@[reducible] def d254_2 : List KO := [
  ⟨(some 46), (.move (.t 1)), none, []⟩,
  ⟨(some 47), (.call 251 [(.t 46)]), none, [0]⟩,
  ⟨(some 48), (.move (.t 3)), none, []⟩,
  ⟨(some 49), (.move (.t 3)), none, []⟩,
  ⟨(some 50), (.len false (.t 49)), none, [3]⟩,
  ⟨(some 51), (.bin .sub (.t 50) (.c (.int .i64 1))), none, [4]⟩,
  ⟨(some 52), (.iaddr 4 (.t 48) (.t 51)), none, [2, 5]⟩,
  ⟨(some 53), (.load true 4 (.t 52)), none, [6]⟩,
  ⟨(some 14), (.alloc none 1 [(.int .u32 0), (.int .u32 0), (.int .u32 0), (.int .u32 0)]), none, []⟩,
  ⟨(some 13), (.move (.t 47)), none, [1, 1, 0, 1, 8]⟩,
  ⟨none, (.store 4 (.t 14) (.t 53)), none, [8, 7, 9, 0, 1, 2, 3, 4, 5, 6, 7, 8, 9]⟩]
@[reducible] def d254_3 : List KO := [
  ⟨(some 58), (.move (.t 0)), none, []⟩,
  ⟨(some 59), (.move (.t 13)), none, []⟩,
  ⟨(some 60), (.load true 4 (.t 7)), none, []⟩,
  ⟨(some 61), (.move (.t 3)), none, []⟩,
  ⟨(some 62), (.move (.t 3)), none, []⟩,
  ⟨(some 63), (.len false (.t 62)), none, [4]⟩,
  ⟨(some 64), (.bin .sub (.t 63) (.c (.int .i64 1))), none, [5]⟩,
  ⟨(some 65), (.slice (some 4) (.t 61) none (some (.t 64))), none, [3, 6]⟩,
  ⟨(some 66), (.move (.t 4)), none, []⟩,
  ⟨(some 67), (.call 254 [(.t 58), (.t 59), (.t 60), (.t 65), (.t 66)]), none, [0, 1, 2, 7, 8]⟩,
  ⟨(some 57), (.move (.t 67)), none, [9]⟩,
  ⟨(some 68), (.extract (.t 57) 0), none, [10]⟩,
  ⟨(some 69), (.extract (.t 57) 1), none, [10]⟩,
  ⟨(some 70), (.extract (.t 57) 2), none, [10]⟩,
  ⟨(some 15), (.alloc none 1 [(.int .u32 0), (.int .u32 0), (.int .u32 0), (.int .u32 0)]), none, []⟩,
  ⟨(some 16), (.alloc none 1 [(.int .u32 0), (.int .u32 0), (.int .u32 0), (.int .u32 0)]), none, []⟩,
  ⟨none, (.store 4 (.t 15) (.t 68)), none, [14, 11, 9, 0, 1, 2, 3, 4, 5, 6, 7, 8, 9, 10, 11, 14, 15]⟩,
  ⟨none, (.store 4 (.t 16) (.t 69)), none, [15, 12, 16, 0, 1, 2, 3, 4, 5, 6, 7, 8, 9, 10, 11, 12, 14, 15, 16]⟩,
  ⟨(some 17), (.move (.t 70)), none, [13, 17, 0, 1, 2, 3, 4, 5, 6, 7, 8, 9, 10, 11, 12, 13, 14, 15, 16, 17]⟩]
@[reducible] def d254_4 : List KO := [
  ⟨(some 71), (.load true 4 (.t 15)), none, []⟩,
  ⟨(some 72), (.load true 4 (.t 16)), none, []⟩,
  ⟨(some 73), (.load true 4 (.t 14)), none, []⟩,
  ⟨(some 74), (.call 20 [(.t 72), (.t 73)]), none, [1, 2]⟩,
  ⟨(some 75), (.move (.t 17)), none, []⟩,
  ⟨none, (.store 4 (.t 10) (.t 71)), none, [0, 3, 0]⟩,
  ⟨none, (.store 4 (.t 11) (.t 74)), none, [3, 5, 0, 1, 2, 3, 5]⟩,
  ⟨(some 12), (.move (.t 75)), none, [4, 6, 0, 1, 2, 3, 4, 5, 6]⟩]
@[reducible] def d254_5 : List KO := [
  ⟨(some 77), (.move (.t 0)), none, []⟩,
  ⟨(some 78), (.move (.t 13)), none, []⟩,
  ⟨(some 79), (.bin .sub (.t 77) (.t 78)), none, [0, 1]⟩,
  ⟨(some 80), (.move (.t 1)), none, []⟩,
  ⟨(some 81), (.move (.t 13)), none, []⟩,
  ⟨(some 82), (.bin .sub (.t 80) (.t 81)), none, [3, 4]⟩,
  ⟨(some 83), (.load true 4 (.t 7)), none, []⟩,
  ⟨(some 84), (.move (.t 3)), none, []⟩,
  ⟨(some 85), (.move (.t 3)), none, []⟩,
  ⟨(some 86), (.len false (.t 85)), none, [8]⟩,
  ⟨(some 87), (.bin .sub (.t 86) (.c (.int .i64 1))), none, [9]⟩,
  ⟨(some 88), (.slice (some 4) (.t 84) none (some (.t 87))), none, [7, 10]⟩,
  ⟨(some 89), (.call 254 [(.t 79), (.t 82), (.t 83), (.t 88), (.c (.bool false))]), none, [2, 5, 6, 11]⟩,
  ⟨(some 76), (.move (.t 89)), none, [12]⟩,
  ⟨(some 90), (.extract (.t 76) 0), none, [13]⟩,
  ⟨(some 91), (.extract (.t 76) 1), none, [13]⟩,
  ⟨(some 92), (.extract (.t 76) 2), none, [13]⟩,
  ⟨(some 18), (.alloc none 1 [(.int .u32 0), (.int .u32 0), (.int .u32 0), (.int .u32 0)]), none, []⟩,
  ⟨(some 19), (.alloc none 1 [(.int .u32 0), (.int .u32 0), (.int .u32 0), (.int .u32 0)]), none, []⟩,
  ⟨none, (.store 4 (.t 18) (.t 90)), none, [17, 14, 12, 0, 1, 2, 3, 4, 5, 6, 7, 8, 9, 10, 11, 12, 13, 14, 17, 18]⟩,
  ⟨none, (.store 4 (.t 19) (.t 91)), none, [18, 15, 19, 0, 1, 2, 3, 4, 5, 6, 7, 8, 9, 10, 11, 12, 13, 14, 15, 17, 18, 19]⟩,
  ⟨(some 20), (.move (.t 92)), none, [16, 20, 0, 1, 2, 3, 4, 5, 6, 7, 8, 9, 10, 11, 12, 13, 14, 15, 16, 17, 18, 19, 20]⟩]
@[reducible] def d254_6 : List KO := [
  ⟨(some 93), (.load true 4 (.t 14)), none, []⟩,
  ⟨(some 94), (.load true 4 (.t 18)), none, []⟩,
  ⟨(some 95), (.call 20 [(.t 93), (.t 94)]), none, [0, 1]⟩,
  ⟨(some 96), (.load true 4 (.t 14)), none, []⟩,
  ⟨(some 97), (.load true 4 (.t 19)), none, []⟩,
  ⟨(some 98), (.call 20 [(.t 96), (.t 97)]), none, [3, 4, 2]⟩,
  ⟨(some 99), (.move (.t 20)), none, []⟩,
  ⟨none, (.store 4 (.t 10) (.t 95)), none, [2, 5, 0, 1, 2]⟩,
  ⟨none, (.store 4 (.t 11) (.t 98)), none, [5, 7, 0, 1, 2, 3, 4, 5, 7]⟩,
  ⟨(some 12), (.move (.t 99)), none, [6, 8, 0, 1, 2, 3, 4, 5, 6, 7, 8]⟩]
/-- awardingbody/awardingbodyref40.follow -/
def c254 : CFun where
  np := 5
  deep := true
  res := [(.cell 10 true 4), (.cell 11 true 4), (.t 12)]
  body :=
    (.seq
      (.region [
        ⟨(some 7), (.box (some 7) 4 1 (.t 2)), none, []⟩,
        ⟨(some 10), (.alloc (some 10) 4 [(.agg [(.int .u32 0), (.int .u32 0), (.int .u32 0), (.int .u32 0)])]), none, []⟩,
        ⟨(some 11), (.alloc (some 11) 4 [(.agg [(.int .u32 0), (.int .u32 0), (.int .u32 0), (.int .u32 0)])]), none, []⟩,
        ⟨(some 12), (.move (.c (.bool false))), none, []⟩])
      (.seq
        (.seq
          (.region [
            ⟨(some 21), (.move (.t 0)), none, []⟩,
            ⟨(some 22), (.move (.t 1)), none, []⟩,
            ⟨(some 23), (.bin .eql (.t 21) (.t 22)), none, [0, 1]⟩])
          (.cond (.t 23)
            (.seq
              (.seq
                (.region [
                  ⟨(some 24), (.move (.t 4)), none, []⟩])
                (.cond (.t 24)
                  (.seq
                    (.dregion d254_0)
                    .ret)
                  .skip))
              (.seq
                (.seq
                  (.region [
                    ⟨(some 30), (.move (.t 3)), none, []⟩,
                    ⟨(some 31), (.len false (.t 30)), none, [0]⟩,
                    ⟨(some 32), (.bin .neq (.t 31) (.c (.int .i64 1))), none, [1]⟩])
                  (.cond (.t 32)
                    (.seq
                      (.region [
                        ⟨(some 33), (.build [(.int .u32 0), (.int .u32 0), (.int .u32 0), (.int .u32 0)] []), none, []⟩,
                        ⟨(some 34), (.build [(.int .u32 0), (.int .u32 0), (.int .u32 0), (.int .u32 0)] []), none, []⟩,
                        ⟨none, (.store 4 (.t 10) (.t 33)), none, [0, 0]⟩,
                        ⟨none, (.store 4 (.t 11) (.t 34)), none, [1, 2, 0, 1, 2]⟩,
                        ⟨(some 12), (.move (.c (.bool false))), none, [3, 0, 1, 2, 3]⟩])
                      .ret)
                    .skip))
                (.seq
                  (.dregion d254_1)
                  .ret)))
            .skip))
        (.seq
          (.seq
            (.region [
              ⟨(some 41), (.move (.t 3)), none, []⟩,
              ⟨(some 42), (.len false (.t 41)), none, [0]⟩,
              ⟨(some 43), (.bin .eql (.t 42) (.c (.int .i64 0))), none, [1]⟩])
            (.cond (.t 43)
              (.seq
                (.region [
                  ⟨(some 44), (.build [(.int .u32 0), (.int .u32 0), (.int .u32 0), (.int .u32 0)] []), none, []⟩,
                  ⟨(some 45), (.build [(.int .u32 0), (.int .u32 0), (.int .u32 0), (.int .u32 0)] []), none, []⟩,
                  ⟨none, (.store 4 (.t 10) (.t 44)), none, [0, 0]⟩,
                  ⟨none, (.store 4 (.t 11) (.t 45)), none, [1, 2, 0, 1, 2]⟩,
                  ⟨(some 12), (.move (.c (.bool false))), none, [3, 0, 1, 2, 3]⟩])
                .ret)
              .skip))
          (.seq
            (.dregion d254_2)
            (.seq
              (.seq
                (.region [
                  ⟨(some 54), (.move (.t 0)), none, []⟩,
                  ⟨(some 55), (.move (.t 13)), none, []⟩,
                  ⟨(some 56), (.bin .leq (.t 54) (.t 55)), none, [0, 1]⟩])
                (.cond (.t 56)
                  (.seq
                    (.dregion d254_3)
                    (.seq
                      (.dregion d254_4)
                      .ret))
                  .skip))
              (.seq
                (.dregion d254_5)
                (.seq
                  (.dregion d254_6)
                  .ret)))))))
-- d254_0: not quiet
-- d254_1: not quiet
-- d254_2: not quiet
-- d254_3: not quiet
theorem rd254_4 (E : Env) (h20 : deepB E 20 = true) (st : St) : Run E (.dregion d254_4) st = regT (runOps E (Call E) d254_4 st) := run_dser (by decide +kernel) (by simp [callsOf, d254_4, h20]) st
-- d254_5: not quiet
theorem rd254_6 (E : Env) (h20 : deepB E 20 = true) (st : St) : Run E (.dregion d254_6) st = regT (runOps E (Call E) d254_6 st) := run_dser (by decide +kernel) (by simp [callsOf, d254_6, h20]) st
end Go.Proofs.Ytkafliflpplpeaa.Sim
