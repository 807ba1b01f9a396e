/-
  This text proves what its parts' remarks say, of the abstract machine (part IrB); no condition stands ahead of the claim's statement.
-/
import Derived.Test.YtbcnnmlphgpmlaaGreatDoorIrA

/- The machine's form of functions, printed by program. -/
namespace Go.AM
set_option maxRecDepth 100000
/-- arras/nat.whole -/
def ir136 : IFn :=
 { nt := 15, res := [.cell 4 true 2],
   body := (.seq (.reg [⟨some 4, .new (.agg [.bool false, .lit (.slice none 0 0)]), [], none⟩])
 (.seq (.live [0, 1, 4, 9, 10, 11]) (.seq (.reg [⟨some 5, .mv (.t 1), [], none⟩,
     ⟨some 6, .call (.c (.fn (.func 138) [] [])) [.t 5], [], none⟩,
     ⟨some 1, .mv (.t 6), [], none⟩])
  (.seq (.live [0, 1, 4, 9, 10, 11]) (.seq (.reg [⟨some 7, .mv (.t 0), [], none⟩,
      ⟨some 8, .mv (.t 7), [], none⟩,
      ⟨some 9, .mv (.t 1), [], some (8, true)⟩,
      ⟨some 10, .len (.t 9), [], some (8, true)⟩,
      ⟨some 11, .bin 0 .gtr (.t 10) (.c (.int .i64 0)), [], some (8, true)⟩,
      ⟨some 12, .pick (.t 8) (.t 11) (.c (.bool false)), [], none⟩,
      ⟨some 13, .mv (.t 1), [], none⟩,
      ⟨some 14, .build [.bool false, .lit (.slice none 0 0)] [(0, 1, .t 12), (1, 1, .t 13)], [], none⟩,
      ⟨none, .st 2 (.t 4) (.t 14), [], none⟩])
   .ret))))) }

/-- arras/nat.Times -/
def ir64 : IFn :=
 { nt := 16, res := [.cell 4 true 2],
   body := (.seq (.reg [⟨some 2, .box 2 (.t 0), [], none⟩,
    ⟨some 3, .box 2 (.t 1), [], none⟩,
    ⟨some 4, .new (.agg [.bool false, .lit (.slice none 0 0)]), [], none⟩])
 (.seq (.live [2, 3, 4]) (.seq (.drw [⟨some 5, .fa false 1 0 (.t 2), [], none⟩,
     ⟨some 6, .ld false 1 (.t 5), [0], none⟩,
     ⟨some 7, .fa false 1 0 (.t 3), [], none⟩,
     ⟨some 8, .ld false 1 (.t 7), [2], none⟩,
     ⟨some 9, .bin 1 .neq (.t 6) (.t 8), [1, 3], none⟩,
     ⟨some 10, .fa false 1 1 (.t 2), [], none⟩,
     ⟨some 11, .ld false 1 (.t 10), [5], none⟩,
     ⟨some 12, .fa false 1 1 (.t 3), [], none⟩,
     ⟨some 13, .ld false 1 (.t 12), [7], none⟩,
     ⟨some 14, .call (.c (.fn (.func 137) [] [])) [.t 11, .t 13], [6, 8], none⟩,
     ⟨some 15, .call (.c (.fn (.func 136) [] [])) [.t 9, .t 14], [4, 9], none⟩,
     ⟨none, .st 2 (.t 4) (.t 15), [10, 0, 1, 2, 3, 4, 5, 6, 7, 8, 9], none⟩])
  .ret))) }

/-- arras/nat.shifted -/
def ir201 : IFn :=
 { nt := 38, res := [.t 4],
   body := (.seq (.reg [⟨some 4, .mv (.c (.lit (.slice none 0 0))), [], none⟩])
 (.seq (.live [0, 1]) (.seq (.reg [⟨some 8, .mv (.t 0), [], none⟩,
     ⟨some 9, .len (.t 8), [], none⟩,
     ⟨some 10, .bin 0 .add (.t 9) (.c (.int .i64 1)), [], none⟩,
     ⟨some 11, .mksl true 1 (.int .u64 0) 8 (.t 10) (.t 10), [], none⟩,
     ⟨some 5, .mv (.t 11), [], none⟩])
  (.seq (.live [0, 1, 5]) (.seq (.seq (.reg [⟨some 12, .mv (.t 0), [], none⟩,
       ⟨some 13, .len (.t 12), [], none⟩,
       ⟨some 14, .mv (.c (.int .i64 0)), [], none⟩])
    (.seq (.live [1, 5, 12, 13, 14]) (.blk 0 (.loop (.seq (.live [1, 5, 12, 13, 14]) (.seq (.reg [⟨some 15, .bin 0 .lss (.t 14) (.t 13), [], none⟩])
       (.seq (.live [1, 5, 12, 13, 14, 15]) (.seq (.cnd (.t 15) .skip
         (.exit 0))
        (.seq (.blk 1 (.seq (.reg [⟨some 16, .mv (.t 14), [], none⟩,
              ⟨some 17, .ia 1 (.t 12) (.t 14), [], none⟩,
              ⟨some 18, .ld false 1 (.t 17), [], none⟩,
              ⟨some 6, .mv (.t 16), [], none⟩,
              ⟨some 7, .mv (.t 18), [], none⟩])
           (.seq (.live [1, 5, 6, 7, 12, 13, 14]) (.seq (.reg [⟨some 19, .mv (.t 5), [], none⟩,
               ⟨some 20, .mv (.t 6), [], none⟩,
               ⟨some 21, .ia 1 (.t 19) (.t 20), [], none⟩,
               ⟨some 22, .ld false 1 (.t 21), [], none⟩,
               ⟨some 23, .mv (.t 7), [], none⟩,
               ⟨some 24, .mv (.t 1), [], none⟩,
               ⟨some 25, .bin 0 .shl (.t 23) (.t 24), [], none⟩,
               ⟨some 26, .bin 0 .or (.t 22) (.t 25), [], none⟩,
               ⟨some 27, .ia 1 (.t 19) (.t 20), [], none⟩,
               ⟨none, .st 1 (.t 27) (.t 26), [], none⟩])
            (.seq (.live [1, 5, 6, 7, 12, 13, 14]) (.reg [⟨some 28, .mv (.t 5), [], none⟩,
               ⟨some 29, .mv (.t 6), [], none⟩,
               ⟨some 30, .bin 0 .add (.t 29) (.c (.int .i64 1)), [], none⟩,
               ⟨some 31, .mv (.t 7), [], none⟩,
               ⟨some 32, .mv (.t 1), [], none⟩,
               ⟨some 33, .bin 0 .sub (.c (.int .u64 64)) (.t 32), [], none⟩,
               ⟨some 34, .bin 0 .shr (.t 31) (.t 33), [], none⟩,
               ⟨some 35, .ia 1 (.t 28) (.t 30), [], none⟩,
               ⟨none, .st 1 (.t 35) (.t 34), [], none⟩]))))))
         (.seq (.live [1, 5, 12, 13, 14]) (.reg [⟨some 36, .bin 0 .add (.t 14) (.c (.int .i64 1)), [], none⟩,
            ⟨some 14, .mv (.t 36), [], none⟩])))))))))))
   (.seq (.live [5]) (.seq (.reg [⟨some 37, .mv (.t 5), [], none⟩,
       ⟨some 4, .mv (.t 37), [], none⟩])
    .ret))))))) }

/-- arras/nat.digit -/
def ir202 : IFn :=
 { nt := 182, res := [.t 4],
   body := (.seq (.reg [⟨some 4, .mv (.c (.int .u64 0)), [], none⟩])
 (.seq (.live [0, 1, 63, 64, 65, 66, 67, 68, 69, 70, 71, 72, 73, 74]) (.seq (.reg [⟨some 19, .mv (.t 1), [], none⟩,
     ⟨some 20, .len (.t 19), [], none⟩,
     ⟨some 5, .mv (.t 20), [], none⟩])
  (.seq (.live [0, 1, 5, 63, 64, 65, 66, 67, 68, 69, 70, 71, 72, 73, 74]) (.seq (.reg [⟨some 6, .mv (.c (.int .u64 18446744073709551615)), [], none⟩])
   (.seq (.live [0, 1, 5, 6, 63, 64, 65, 66, 67, 68, 69, 70, 71, 72, 73, 74]) (.seq (.seq (.drw [⟨some 21, .mv (.t 0), [], none⟩,
        ⟨some 22, .mv (.t 5), [], none⟩,
        ⟨some 23, .ia 1 (.t 21) (.t 22), [0, 1], none⟩,
        ⟨some 24, .ld false 1 (.t 23), [2], none⟩,
        ⟨some 25, .mv (.t 1), [], none⟩,
        ⟨some 26, .mv (.t 5), [], none⟩,
        ⟨some 27, .bin 0 .sub (.t 26) (.c (.int .i64 1)), [5], none⟩,
        ⟨some 28, .ia 1 (.t 25) (.t 27), [4, 6], none⟩,
        ⟨some 29, .ld false 1 (.t 28), [7], none⟩,
        ⟨some 30, .bin 0 .lss (.t 24) (.t 29), [3, 8], none⟩])
     (.seq (.live [0, 1, 5, 6, 30, 63, 64, 65, 66, 67, 68, 69, 70, 71, 72, 73, 74]) (.cnd (.t 30) (.seq (.reg [⟨some 7, .mv (.c (.int .u64 0)), [], none⟩])
       (.seq (.live [0, 1, 5, 63, 64, 65, 66, 67, 68, 69, 70, 71, 72, 73, 74]) (.seq (.drw [⟨some 32, .mv (.t 0), [], none⟩,
           ⟨some 33, .mv (.t 5), [], none⟩,
           ⟨some 34, .ia 1 (.t 32) (.t 33), [0, 1], none⟩,
           ⟨some 35, .ld false 1 (.t 34), [2], none⟩,
           ⟨some 36, .mv (.t 0), [], none⟩,
           ⟨some 37, .mv (.t 5), [], none⟩,
           ⟨some 38, .bin 0 .sub (.t 37) (.c (.int .i64 1)), [5], none⟩,
           ⟨some 39, .ia 1 (.t 36) (.t 38), [4, 6], none⟩,
           ⟨some 40, .ld false 1 (.t 39), [7], none⟩,
           ⟨some 41, .mv (.t 1), [], none⟩,
           ⟨some 42, .mv (.t 5), [], none⟩,
           ⟨some 43, .bin 0 .sub (.t 42) (.c (.int .i64 1)), [10], none⟩,
           ⟨some 44, .ia 1 (.t 41) (.t 43), [9, 11], none⟩,
           ⟨some 45, .ld false 1 (.t 44), [12], none⟩,
           ⟨some 46, .call (.c (.fn (.func 230) [] [])) [.t 35, .t 40, .t 45], [3, 8, 13], none⟩,
           ⟨some 31, .mv (.t 46), [14], none⟩,
           ⟨some 47, .ext (.t 31) 0, [15], none⟩,
           ⟨some 48, .ext (.t 31) 1, [15], none⟩,
           ⟨some 6, .mv (.t 47), [16, 14, 0, 1, 2, 3, 4, 5, 6, 7, 8, 9, 10, 11, 12, 13, 15], none⟩,
           ⟨some 7, .mv (.t 48), [17, 18, 0, 1, 2, 3, 4, 5, 6, 7, 8, 9, 10, 11, 12, 13, 14, 15, 16], none⟩])
        (.seq (.live [0, 1, 5, 6, 7, 63, 64, 65, 66, 67, 68, 69, 70, 71, 72, 73, 74]) (.blk 0 (.loop (.seq (.live [0, 1, 5, 6, 7, 63, 64, 65, 66, 67, 68, 69, 70, 71, 72, 73, 74]) (.blk 1 (.seq (.reg [⟨some 50, .mv (.t 6), [], none⟩,
               ⟨some 51, .mv (.t 1), [], none⟩,
               ⟨some 52, .mv (.t 5), [], none⟩,
               ⟨some 53, .bin 0 .sub (.t 52) (.c (.int .i64 2)), [], none⟩,
               ⟨some 54, .ia 1 (.t 51) (.t 53), [], none⟩,
               ⟨some 55, .ld false 1 (.t 54), [], none⟩,
               ⟨some 56, .call (.c (.fn (.func 203) [] [])) [.t 50, .t 55], [], none⟩,
               ⟨some 49, .mv (.t 56), [], none⟩,
               ⟨some 57, .ext (.t 49) 0, [], none⟩,
               ⟨some 58, .ext (.t 49) 1, [], none⟩,
               ⟨some 8, .mv (.t 57), [], none⟩,
               ⟨some 9, .mv (.t 58), [], none⟩])
            (.seq (.live [0, 1, 5, 6, 7, 8, 9, 63, 64, 65, 66, 67, 68, 69, 70, 71, 72, 73, 74]) (.seq (.seq (.reg [⟨some 59, .mv (.t 8), [], none⟩,
                 ⟨some 60, .mv (.t 7), [], none⟩,
                 ⟨some 61, .bin 0 .lss (.t 59) (.t 60), [], none⟩,
                 ⟨some 62, .mv (.t 61), [], none⟩,
                 ⟨some 63, .mv (.t 8), [], some (62, false)⟩,
                 ⟨some 64, .mv (.t 7), [], some (62, false)⟩,
                 ⟨some 65, .bin 0 .eql (.t 63) (.t 64), [], some (62, false)⟩,
                 ⟨some 66, .mv (.t 65), [], some (62, false)⟩,
                 ⟨some 67, .mv (.t 9), [], some (66, true)⟩,
                 ⟨some 68, .mv (.t 0), [], some (66, true)⟩,
                 ⟨some 69, .mv (.t 5), [], some (66, true)⟩,
                 ⟨some 70, .bin 0 .sub (.t 69) (.c (.int .i64 2)), [], some (66, true)⟩,
                 ⟨some 71, .ia 1 (.t 68) (.t 70), [], some (66, true)⟩,
                 ⟨some 72, .ld false 1 (.t 71), [], some (66, true)⟩,
                 ⟨some 73, .bin 0 .leq (.t 67) (.t 72), [], some (66, true)⟩,
                 ⟨some 74, .pick (.t 66) (.t 73) (.c (.bool false)), [], some (62, false)⟩,
                 ⟨some 75, .pick (.t 62) (.c (.bool true)) (.t 74), [], none⟩])
              (.seq (.live [0, 1, 5, 6, 7, 63, 64, 65, 66, 67, 68, 69, 70, 71, 72, 73, 74, 75]) (.cnd (.t 75) (.exit 0)
               .skip)))
             (.seq (.live [0, 1, 5, 6, 7, 63, 64, 65, 66, 67, 68, 69, 70, 71, 72, 73, 74]) (.seq (.reg [⟨some 76, .mv (.t 6), [], none⟩,
                 ⟨some 77, .bin 0 .sub (.t 76) (.c (.int .u64 1)), [], none⟩,
                 ⟨some 6, .mv (.t 77), [], none⟩])
              (.seq (.live [0, 1, 5, 6, 7, 63, 64, 65, 66, 67, 68, 69, 70, 71, 72, 73, 74]) (.seq (.reg [⟨some 78, .mv (.t 7), [], none⟩,
                  ⟨some 79, .mv (.t 1), [], none⟩,
                  ⟨some 80, .mv (.t 5), [], none⟩,
                  ⟨some 81, .bin 0 .sub (.t 80) (.c (.int .i64 1)), [], none⟩,
                  ⟨some 82, .ia 1 (.t 79) (.t 81), [], none⟩,
                  ⟨some 83, .ld false 1 (.t 82), [], none⟩,
                  ⟨some 84, .bin 0 .add (.t 78) (.t 83), [], none⟩,
                  ⟨some 7, .mv (.t 84), [], none⟩])
               (.seq (.live [0, 1, 5, 6, 7, 63, 64, 65, 66, 67, 68, 69, 70, 71, 72, 73, 74]) (.seq (.reg [⟨some 85, .mv (.t 7), [], none⟩,
                   ⟨some 86, .mv (.t 1), [], none⟩,
                   ⟨some 87, .mv (.t 5), [], none⟩,
                   ⟨some 88, .bin 0 .sub (.t 87) (.c (.int .i64 1)), [], none⟩,
                   ⟨some 89, .ia 1 (.t 86) (.t 88), [], none⟩,
                   ⟨some 90, .ld false 1 (.t 89), [], none⟩,
                   ⟨some 91, .bin 0 .lss (.t 85) (.t 90), [], none⟩])
                (.seq (.live [0, 1, 5, 6, 7, 63, 64, 65, 66, 67, 68, 69, 70, 71, 72, 73, 74, 91]) (.cnd (.t 91) (.exit 0)
                 .skip)))))))))))))))))))
      .skip)))
    (.seq (.live [0, 1, 5, 6]) (.seq (.reg [⟨some 10, .mv (.c (.int .u64 0)), [], none⟩,
        ⟨some 11, .mv (.c (.int .u64 0)), [], none⟩])
     (.seq (.live [0, 1, 5, 6, 10, 11]) (.seq (.seq (.reg [⟨some 92, .mv (.t 1), [], none⟩,
          ⟨some 93, .len (.t 92), [], none⟩,
          ⟨some 94, .mv (.c (.int .i64 0)), [], none⟩])
       (.seq (.live [0, 1, 5, 6, 10, 11, 92, 93, 94]) (.blk 2 (.loop (.seq (.live [0, 1, 5, 6, 10, 11, 92, 93, 94]) (.seq (.reg [⟨some 95, .bin 0 .lss (.t 94) (.t 93), [], none⟩])
          (.seq (.live [0, 1, 5, 6, 10, 11, 92, 93, 94, 95]) (.seq (.cnd (.t 95) .skip
            (.exit 2))
           (.seq (.blk 3 (.seq (.reg [⟨some 96, .mv (.t 94), [], none⟩,
                 ⟨some 97, .ia 1 (.t 92) (.t 94), [], none⟩,
                 ⟨some 98, .ld false 1 (.t 97), [], none⟩,
                 ⟨some 12, .mv (.t 96), [], none⟩,
                 ⟨some 13, .mv (.t 98), [], none⟩])
              (.seq (.live [0, 1, 5, 6, 10, 11, 12, 13, 92, 93, 94]) (.seq (.reg [⟨some 100, .mv (.t 6), [], none⟩,
                  ⟨some 101, .mv (.t 13), [], none⟩,
                  ⟨some 102, .call (.c (.fn (.func 203) [] [])) [.t 100, .t 101], [], none⟩,
                  ⟨some 99, .mv (.t 102), [], none⟩,
                  ⟨some 103, .ext (.t 99) 0, [], none⟩,
                  ⟨some 104, .ext (.t 99) 1, [], none⟩,
                  ⟨some 14, .mv (.t 103), [], none⟩,
                  ⟨some 15, .mv (.t 104), [], none⟩])
               (.seq (.live [0, 1, 5, 6, 10, 11, 12, 14, 15, 92, 93, 94]) (.seq (.reg [⟨some 106, .mv (.t 15), [], none⟩,
                   ⟨some 107, .mv (.t 10), [], none⟩,
                   ⟨some 108, .call (.c (.fn (.func 197) [] [])) [.t 106, .t 107, .c (.int .u64 0)], [], none⟩,
                   ⟨some 105, .mv (.t 108), [], none⟩,
                   ⟨some 109, .ext (.t 105) 0, [], none⟩,
                   ⟨some 110, .ext (.t 105) 1, [], none⟩,
                   ⟨some 15, .mv (.t 109), [], none⟩,
                   ⟨some 16, .mv (.t 110), [], none⟩])
                (.seq (.live [0, 1, 5, 6, 11, 12, 14, 15, 16, 92, 93, 94]) (.seq (.reg [⟨some 111, .mv (.t 14), [], none⟩,
                    ⟨some 112, .mv (.t 16), [], none⟩,
                    ⟨some 113, .bin 0 .add (.t 111) (.t 112), [], none⟩,
                    ⟨some 10, .mv (.t 113), [], none⟩])
                 (.seq (.live [0, 1, 5, 6, 10, 11, 12, 15, 92, 93, 94]) (.reg [⟨some 115, .mv (.t 0), [], none⟩,
                    ⟨some 116, .mv (.t 12), [], none⟩,
                    ⟨some 117, .mv (.t 0), [], none⟩,
                    ⟨some 118, .mv (.t 12), [], none⟩,
                    ⟨some 119, .ia 1 (.t 117) (.t 118), [], none⟩,
                    ⟨some 120, .ld false 1 (.t 119), [], none⟩,
                    ⟨some 121, .mv (.t 15), [], none⟩,
                    ⟨some 122, .mv (.t 11), [], none⟩,
                    ⟨some 123, .call (.c (.fn (.func 231) [] [])) [.t 120, .t 121, .t 122], [], none⟩,
                    ⟨some 114, .mv (.t 123), [], none⟩,
                    ⟨some 124, .ext (.t 114) 0, [], none⟩,
                    ⟨some 125, .ext (.t 114) 1, [], none⟩,
                    ⟨some 126, .ia 1 (.t 115) (.t 116), [], none⟩,
                    ⟨none, .st 1 (.t 126) (.t 124), [], none⟩,
                    ⟨some 11, .mv (.t 125), [], none⟩]))))))))))
            (.seq (.live [0, 1, 5, 6, 10, 11, 92, 93, 94]) (.reg [⟨some 127, .bin 0 .add (.t 94) (.c (.int .i64 1)), [], none⟩,
               ⟨some 94, .mv (.t 127), [], none⟩])))))))))))
      (.seq (.live [0, 1, 5, 6, 10, 11]) (.seq (.reg [⟨some 129, .mv (.t 0), [], none⟩,
          ⟨some 130, .mv (.t 5), [], none⟩,
          ⟨some 131, .mv (.t 0), [], none⟩,
          ⟨some 132, .mv (.t 5), [], none⟩,
          ⟨some 133, .ia 1 (.t 131) (.t 132), [], none⟩,
          ⟨some 134, .ld false 1 (.t 133), [], none⟩,
          ⟨some 135, .mv (.t 10), [], none⟩,
          ⟨some 136, .mv (.t 11), [], none⟩,
          ⟨some 137, .call (.c (.fn (.func 231) [] [])) [.t 134, .t 135, .t 136], [], none⟩,
          ⟨some 128, .mv (.t 137), [], none⟩,
          ⟨some 138, .ext (.t 128) 0, [], none⟩,
          ⟨some 139, .ext (.t 128) 1, [], none⟩,
          ⟨some 140, .ia 1 (.t 129) (.t 130), [], none⟩,
          ⟨none, .st 1 (.t 140) (.t 138), [], none⟩,
          ⟨some 11, .mv (.t 139), [], none⟩])
       (.seq (.live [0, 1, 5, 6, 11]) (.seq (.blk 4 (.loop (.seq (.live [0, 1, 5, 6, 11]) (.seq (.seq (.reg [⟨some 141, .mv (.t 11), [], none⟩,
               ⟨some 142, .bin 0 .gtr (.t 141) (.c (.int .u64 0)), [], none⟩])
            (.seq (.live [0, 1, 5, 6, 11, 142]) (.cnd (.t 142) .skip
             (.exit 4))))
           (.seq (.live [0, 1, 5, 6, 11]) (.blk 5 (.seq (.reg [⟨some 143, .mv (.t 6), [], none⟩,
                ⟨some 144, .bin 0 .sub (.t 143) (.c (.int .u64 1)), [], none⟩,
                ⟨some 6, .mv (.t 144), [], none⟩])
             (.seq (.live [0, 1, 5, 6, 11]) (.seq (.reg [⟨some 10, .mv (.c (.int .u64 0)), [], none⟩])
              (.seq (.live [0, 1, 5, 6, 10, 11]) (.seq (.seq (.reg [⟨some 145, .mv (.t 1), [], none⟩,
                   ⟨some 146, .len (.t 145), [], none⟩,
                   ⟨some 147, .mv (.c (.int .i64 0)), [], none⟩])
                (.seq (.live [0, 1, 5, 6, 10, 11, 145, 146, 147]) (.blk 6 (.loop (.seq (.live [0, 1, 5, 6, 10, 11, 145, 146, 147]) (.seq (.reg [⟨some 148, .bin 0 .lss (.t 147) (.t 146), [], none⟩])
                   (.seq (.live [0, 1, 5, 6, 10, 11, 145, 146, 147, 148]) (.seq (.cnd (.t 148) .skip
                     (.exit 6))
                    (.seq (.blk 7 (.seq (.reg [⟨some 149, .mv (.t 147), [], none⟩,
                          ⟨some 150, .ia 1 (.t 145) (.t 147), [], none⟩,
                          ⟨some 151, .ld false 1 (.t 150), [], none⟩,
                          ⟨some 17, .mv (.t 149), [], none⟩,
                          ⟨some 18, .mv (.t 151), [], none⟩])
                       (.seq (.live [0, 1, 5, 6, 10, 11, 17, 18, 145, 146, 147]) (.reg [⟨some 153, .mv (.t 0), [], none⟩,
                          ⟨some 154, .mv (.t 17), [], none⟩,
                          ⟨some 155, .mv (.t 0), [], none⟩,
                          ⟨some 156, .mv (.t 17), [], none⟩,
                          ⟨some 157, .ia 1 (.t 155) (.t 156), [], none⟩,
                          ⟨some 158, .ld false 1 (.t 157), [], none⟩,
                          ⟨some 159, .mv (.t 18), [], none⟩,
                          ⟨some 160, .mv (.t 10), [], none⟩,
                          ⟨some 161, .call (.c (.fn (.func 197) [] [])) [.t 158, .t 159, .t 160], [], none⟩,
                          ⟨some 152, .mv (.t 161), [], none⟩,
                          ⟨some 162, .ext (.t 152) 0, [], none⟩,
                          ⟨some 163, .ext (.t 152) 1, [], none⟩,
                          ⟨some 164, .ia 1 (.t 153) (.t 154), [], none⟩,
                          ⟨none, .st 1 (.t 164) (.t 162), [], none⟩,
                          ⟨some 10, .mv (.t 163), [], none⟩]))))
                     (.seq (.live [0, 1, 5, 6, 10, 11, 145, 146, 147]) (.reg [⟨some 165, .bin 0 .add (.t 147) (.c (.int .i64 1)), [], none⟩,
                        ⟨some 147, .mv (.t 165), [], none⟩])))))))))))
               (.seq (.live [0, 1, 5, 6, 10, 11]) (.seq (.reg [⟨some 167, .mv (.t 0), [], none⟩,
                   ⟨some 168, .mv (.t 5), [], none⟩,
                   ⟨some 169, .mv (.t 0), [], none⟩,
                   ⟨some 170, .mv (.t 5), [], none⟩,
                   ⟨some 171, .ia 1 (.t 169) (.t 170), [], none⟩,
                   ⟨some 172, .ld false 1 (.t 171), [], none⟩,
                   ⟨some 173, .mv (.t 10), [], none⟩,
                   ⟨some 174, .call (.c (.fn (.func 197) [] [])) [.t 172, .c (.int .u64 0), .t 173], [], none⟩,
                   ⟨some 166, .mv (.t 174), [], none⟩,
                   ⟨some 175, .ext (.t 166) 0, [], none⟩,
                   ⟨some 176, .ext (.t 166) 1, [], none⟩,
                   ⟨some 177, .ia 1 (.t 167) (.t 168), [], none⟩,
                   ⟨none, .st 1 (.t 177) (.t 175), [], none⟩,
                   ⟨some 10, .mv (.t 176), [], none⟩])
                (.seq (.live [0, 1, 5, 6, 10, 11]) (.reg [⟨some 178, .mv (.t 11), [], none⟩,
                   ⟨some 179, .mv (.t 10), [], none⟩,
                   ⟨some 180, .bin 0 .sub (.t 178) (.t 179), [], none⟩,
                   ⟨some 11, .mv (.t 180), [], none⟩])))))))))))))))
        (.seq (.live [6]) (.seq (.reg [⟨some 181, .mv (.t 6), [], none⟩,
            ⟨some 4, .mv (.t 181), [], none⟩])
         .ret))))))))))))))))) }

/-- arras/nat.Div -/
def ir133 : IFn :=
 { nt := 120, res := [.t 4, .t 5, .t 6],
   body := (.seq (.reg [⟨some 4, .mv (.c (.lit (.slice none 0 0))), [], none⟩,
    ⟨some 5, .mv (.c (.lit (.slice none 0 0))), [], none⟩,
    ⟨some 6, .mv (.c (.int .i64 0)), [], none⟩])
 (.seq (.live [0, 1]) (.seq (.reg [⟨some 17, .mv (.t 1), [], none⟩,
     ⟨some 18, .call (.c (.fn (.func 138) [] [])) [.t 17], [], none⟩,
     ⟨some 1, .mv (.t 18), [], none⟩])
  (.seq (.live [0, 1]) (.seq (.blk 0 (.seq (.reg [⟨some 20, .mv (.t 1), [], none⟩,
        ⟨some 21, .len (.t 20), [], none⟩,
        ⟨some 22, .bin 0 .eql (.t 21) (.c (.int .i64 0)), [], none⟩,
        ⟨some 19, .mv (.t 22), [], none⟩])
     (.seq (.live [0, 1, 19]) (.cnd (.t 19) (.seq (.reg [⟨some 4, .mv (.c (.lit (.slice none 0 0))), [], none⟩,
          ⟨some 5, .mv (.c (.lit (.slice none 0 0))), [], none⟩,
          ⟨some 6, .mv (.c (.int .i64 1)), [], none⟩])
       .ret)
      (.seq (.reg [⟨some 24, .mv (.t 0), [], none⟩,
          ⟨some 25, .mv (.t 1), [], none⟩,
          ⟨some 26, .call (.c (.fn (.func 198) [] [])) [.t 24, .t 25], [], none⟩,
          ⟨some 27, .bin 0 .lss (.t 26) (.c (.int .i64 0)), [], none⟩,
          ⟨some 23, .mv (.t 27), [], none⟩])
       (.seq (.live [0, 1, 23]) (.cnd (.t 23) (.seq (.reg [⟨some 28, .bsl true 1 (.int .u64 0) 0 [], [], none⟩,
            ⟨some 29, .mv (.t 0), [], none⟩,
            ⟨some 30, .app true 1 8 (.t 28) (.t 29), [], none⟩,
            ⟨some 31, .call (.c (.fn (.func 138) [] [])) [.t 30], [], none⟩,
            ⟨some 4, .mv (.c (.lit (.slice none 0 0))), [], none⟩,
            ⟨some 5, .mv (.t 31), [], none⟩,
            ⟨some 6, .mv (.c (.int .i64 0)), [], none⟩])
         .ret)
        (.seq (.reg [⟨some 33, .mv (.t 1), [], none⟩,
            ⟨some 34, .len (.t 33), [], none⟩,
            ⟨some 35, .bin 0 .eql (.t 34) (.c (.int .i64 1)), [], none⟩,
            ⟨some 32, .mv (.t 35), [], none⟩])
         (.seq (.live [0, 1, 32]) (.cnd (.t 32) (.seq (.drw [⟨some 37, .mv (.t 0), [], none⟩,
              ⟨some 38, .call (.c (.fn (.func 138) [] [])) [.t 37], [0], none⟩,
              ⟨some 39, .mv (.t 1), [], none⟩,
              ⟨some 40, .ia 1 (.t 39) (.c (.int .i64 0)), [2], none⟩,
              ⟨some 41, .ld false 1 (.t 40), [3], none⟩,
              ⟨some 42, .call (.c (.fn (.func 199) [] [])) [.t 38, .t 41], [1, 4], none⟩,
              ⟨some 36, .mv (.t 42), [5], none⟩,
              ⟨some 43, .ext (.t 36) 0, [6], none⟩,
              ⟨some 44, .ext (.t 36) 1, [6], none⟩,
              ⟨some 7, .mv (.t 43), [7, 5, 0, 1, 2, 3, 4, 6], none⟩,
              ⟨some 8, .mv (.t 44), [8, 9, 0, 1, 2, 3, 4, 5, 6, 7], none⟩])
           (.seq (.live [7, 8]) (.seq (.reg [⟨some 45, .mv (.t 7), [], none⟩,
               ⟨some 46, .mv (.t 8), [], none⟩,
               ⟨some 47, .call (.c (.fn (.func 65) [] [])) [.t 46], [], none⟩,
               ⟨some 4, .mv (.t 45), [], none⟩,
               ⟨some 5, .mv (.t 47), [], none⟩,
               ⟨some 6, .mv (.c (.int .i64 0)), [], none⟩])
            .ret)))
          .skip))))))))))
   (.seq (.live [0, 1]) (.seq (.reg [⟨some 48, .mv (.t 1), [], none⟩,
       ⟨some 49, .mv (.t 1), [], none⟩,
       ⟨some 50, .len (.t 49), [], none⟩,
       ⟨some 51, .bin 0 .sub (.t 50) (.c (.int .i64 1)), [], none⟩,
       ⟨some 52, .ia 1 (.t 48) (.t 51), [], none⟩,
       ⟨some 53, .ld false 1 (.t 52), [], none⟩,
       ⟨some 54, .call (.c (.fn (.func 200) [] [])) [.t 53], [], none⟩,
       ⟨some 55, .conv .u64 (.t 54), [], none⟩,
       ⟨some 9, .mv (.t 55), [], none⟩])
    (.seq (.live [0, 1, 9]) (.seq (.reg [⟨some 56, .mv (.t 0), [], none⟩,
        ⟨some 57, .call (.c (.fn (.func 138) [] [])) [.t 56], [], none⟩,
        ⟨some 58, .mv (.t 9), [], none⟩,
        ⟨some 59, .call (.c (.fn (.func 201) [] [])) [.t 57, .t 58], [], none⟩,
        ⟨some 60, .mv (.t 1), [], none⟩,
        ⟨some 61, .mv (.t 9), [], none⟩,
        ⟨some 62, .call (.c (.fn (.func 201) [] [])) [.t 60, .t 61], [], none⟩,
        ⟨some 63, .call (.c (.fn (.func 138) [] [])) [.t 62], [], none⟩,
        ⟨some 10, .mv (.t 59), [], none⟩,
        ⟨some 11, .mv (.t 63), [], none⟩])
     (.seq (.live [9, 10, 11]) (.seq (.reg [⟨some 64, .mv (.t 11), [], none⟩,
         ⟨some 65, .len (.t 64), [], none⟩,
         ⟨some 12, .mv (.t 65), [], none⟩])
      (.seq (.live [9, 10, 11, 12]) (.seq (.reg [⟨some 66, .mv (.t 10), [], none⟩,
          ⟨some 67, .len (.t 66), [], none⟩,
          ⟨some 68, .mv (.t 12), [], none⟩,
          ⟨some 69, .bin 0 .sub (.t 67) (.t 68), [], none⟩,
          ⟨some 70, .mksl true 1 (.int .u64 0) 8 (.t 69) (.t 69), [], none⟩,
          ⟨some 13, .mv (.t 70), [], none⟩])
       (.seq (.live [9, 10, 11, 12, 13]) (.seq (.seq (.reg [⟨some 71, .mv (.t 13), [], none⟩,
            ⟨some 72, .len (.t 71), [], none⟩,
            ⟨some 73, .bin 0 .sub (.t 72) (.c (.int .i64 1)), [], none⟩,
            ⟨some 14, .mv (.t 73), [], none⟩])
         (.seq (.live [9, 10, 11, 12, 13, 14]) (.blk 1 (.loop (.seq (.live [9, 10, 11, 12, 13, 14]) (.seq (.seq (.reg [⟨some 74, .mv (.t 14), [], none⟩,
                ⟨some 75, .bin 0 .geq (.t 74) (.c (.int .i64 0)), [], none⟩])
             (.seq (.live [9, 10, 11, 12, 13, 14, 75]) (.cnd (.t 75) .skip
              (.exit 1))))
            (.seq (.live [9, 10, 11, 12, 13, 14]) (.seq (.blk 2 (.reg [⟨some 78, .mv (.t 13), [], none⟩,
                 ⟨some 79, .mv (.t 14), [], none⟩,
                 ⟨some 80, .mv (.t 10), [], none⟩,
                 ⟨some 81, .mv (.t 14), [], none⟩,
                 ⟨some 82, .mv (.t 14), [], none⟩,
                 ⟨some 83, .mv (.t 12), [], none⟩,
                 ⟨some 84, .bin 0 .add (.t 82) (.t 83), [], none⟩,
                 ⟨some 85, .bin 0 .add (.t 84) (.c (.int .i64 1)), [], none⟩,
                 ⟨some 86, .slc 1 (.t 80) (some (.t 81)) (some (.t 85)) none, [], none⟩,
                 ⟨some 87, .mv (.t 11), [], none⟩,
                 ⟨some 88, .call (.c (.fn (.func 202) [] [])) [.t 86, .t 87], [], none⟩,
                 ⟨some 89, .ia 1 (.t 78) (.t 79), [], none⟩,
                 ⟨none, .st 1 (.t 89) (.t 88), [], none⟩]))
             (.seq (.live [9, 10, 11, 12, 13, 14]) (.reg [⟨some 76, .mv (.t 14), [], none⟩,
                ⟨some 77, .bin 0 .sub (.t 76) (.c (.int .i64 1)), [], none⟩,
                ⟨some 14, .mv (.t 77), [], none⟩]))))))))))
        (.seq (.live [9, 10, 12, 13]) (.seq (.reg [⟨some 90, .mv (.t 12), [], none⟩,
            ⟨some 91, .mksl true 1 (.int .u64 0) 8 (.t 90) (.t 90), [], none⟩,
            ⟨some 15, .mv (.t 91), [], none⟩])
         (.seq (.live [9, 10, 13, 15]) (.seq (.seq (.reg [⟨some 92, .mv (.t 15), [], none⟩,
              ⟨some 93, .len (.t 92), [], none⟩,
              ⟨some 94, .mv (.c (.int .i64 0)), [], none⟩])
           (.seq (.live [9, 10, 13, 15, 93, 94]) (.blk 3 (.loop (.seq (.live [9, 10, 13, 15, 93, 94]) (.seq (.reg [⟨some 95, .bin 0 .lss (.t 94) (.t 93), [], none⟩])
              (.seq (.live [9, 10, 13, 15, 93, 94, 95]) (.seq (.cnd (.t 95) .skip
                (.exit 3))
               (.seq (.blk 4 (.seq (.reg [⟨some 96, .mv (.t 94), [], none⟩,
                     ⟨some 16, .mv (.t 96), [], none⟩])
                  (.seq (.live [9, 10, 13, 15, 16, 93, 94]) (.drw [⟨some 97, .mv (.t 15), [], none⟩,
                     ⟨some 98, .mv (.t 16), [], none⟩,
                     ⟨some 99, .mv (.t 10), [], none⟩,
                     ⟨some 100, .mv (.t 16), [], none⟩,
                     ⟨some 101, .ia 1 (.t 99) (.t 100), [2, 3], none⟩,
                     ⟨some 102, .ld false 1 (.t 101), [4], none⟩,
                     ⟨some 103, .mv (.t 9), [], none⟩,
                     ⟨some 104, .bin 0 .shr (.t 102) (.t 103), [5, 6], none⟩,
                     ⟨some 105, .mv (.t 10), [], none⟩,
                     ⟨some 106, .mv (.t 16), [], none⟩,
                     ⟨some 107, .bin 0 .add (.t 106) (.c (.int .i64 1)), [9], none⟩,
                     ⟨some 108, .ia 1 (.t 105) (.t 107), [8, 10], none⟩,
                     ⟨some 109, .ld false 1 (.t 108), [11], none⟩,
                     ⟨some 110, .mv (.t 9), [], none⟩,
                     ⟨some 111, .bin 0 .sub (.c (.int .u64 64)) (.t 110), [13], none⟩,
                     ⟨some 112, .bin 0 .shl (.t 109) (.t 111), [12, 14], none⟩,
                     ⟨some 113, .bin 0 .or (.t 104) (.t 112), [7, 15], none⟩,
                     ⟨some 114, .ia 1 (.t 97) (.t 98), [0, 1, 2, 3, 4, 5, 6, 7, 8, 9, 10, 11, 12, 13, 14, 15, 16], none⟩,
                     ⟨none, .st 1 (.t 114) (.t 113), [17, 16, 0, 1, 2, 3, 4, 5, 6, 7, 8, 9, 10, 11, 12, 13, 14, 15], none⟩]))))
                (.seq (.live [9, 10, 13, 15, 93, 94]) (.reg [⟨some 115, .bin 0 .add (.t 94) (.c (.int .i64 1)), [], none⟩,
                   ⟨some 94, .mv (.t 115), [], none⟩])))))))))))
          (.seq (.live [13, 15]) (.seq (.reg [⟨some 116, .mv (.t 13), [], none⟩,
              ⟨some 117, .call (.c (.fn (.func 138) [] [])) [.t 116], [], none⟩,
              ⟨some 118, .mv (.t 15), [], none⟩,
              ⟨some 119, .call (.c (.fn (.func 138) [] [])) [.t 118], [], none⟩,
              ⟨some 4, .mv (.t 117), [], none⟩,
              ⟨some 5, .mv (.t 119), [], none⟩,
              ⟨some 6, .mv (.c (.int .i64 0)), [], none⟩])
           .ret))))))))))))))))))))) }

/-- arras/nat.Near -/
def ir217 : IFn :=
 { nt := 49, res := [.cell 4 true 2, .t 5],
   body := (.seq (.reg [⟨some 2, .box 2 (.t 0), [], none⟩,
    ⟨some 4, .new (.agg [.bool false, .lit (.slice none 0 0)]), [], none⟩,
    ⟨some 5, .mv (.c (.int .i64 0)), [], none⟩])
 (.seq (.live [1, 2, 4, 30, 31, 32, 33, 34, 35, 36, 37, 38, 39, 40]) (.seq (.reg [⟨some 11, .fa false 1 1 (.t 2), [], none⟩,
     ⟨some 12, .ld false 1 (.t 11), [], none⟩,
     ⟨some 13, .mv (.t 1), [], none⟩,
     ⟨some 14, .call (.c (.fn (.func 133) [] [])) [.t 12, .t 13], [], none⟩,
     ⟨some 10, .mv (.t 14), [], none⟩,
     ⟨some 15, .ext (.t 10) 0, [], none⟩,
     ⟨some 16, .ext (.t 10) 1, [], none⟩,
     ⟨some 17, .ext (.t 10) 2, [], none⟩,
     ⟨some 6, .mv (.t 15), [], none⟩,
     ⟨some 7, .mv (.t 16), [], none⟩,
     ⟨some 8, .mv (.t 17), [], none⟩])
  (.seq (.live [1, 2, 4, 6, 7, 8, 30, 31, 32, 33, 34, 35, 36, 37, 38, 39, 40]) (.seq (.seq (.reg [⟨some 18, .mv (.t 8), [], none⟩,
       ⟨some 19, .bin 0 .neq (.t 18) (.c (.int .i64 0)), [], none⟩])
    (.seq (.live [1, 2, 4, 6, 7, 8, 19, 30, 31, 32, 33, 34, 35, 36, 37, 38, 39, 40]) (.cnd (.t 19) (.seq (.reg [⟨some 20, .build [.bool false, .lit (.slice none 0 0)] [], [], none⟩,
         ⟨some 21, .mv (.t 8), [], none⟩,
         ⟨none, .st 2 (.t 4) (.t 20), [], none⟩,
         ⟨some 5, .mv (.t 21), [], none⟩])
      .ret)
     .skip)))
   (.seq (.live [1, 2, 4, 6, 7, 30, 31, 32, 33, 34, 35, 36, 37, 38, 39, 40]) (.seq (.reg [⟨some 22, .mv (.t 7), [], none⟩,
       ⟨some 23, .mv (.t 7), [], none⟩,
       ⟨some 24, .call (.c (.fn (.func 238) [] [])) [.t 22, .t 23], [], none⟩,
       ⟨some 25, .mv (.t 1), [], none⟩,
       ⟨some 26, .call (.c (.fn (.func 198) [] [])) [.t 24, .t 25], [], none⟩,
       ⟨some 9, .mv (.t 26), [], none⟩])
    (.seq (.live [2, 4, 6, 9, 30, 31, 32, 33, 34, 35, 36, 37, 38, 39, 40]) (.seq (.seq (.reg [⟨some 27, .mv (.t 9), [], none⟩,
         ⟨some 28, .bin 0 .gtr (.t 27) (.c (.int .i64 0)), [], none⟩,
         ⟨some 29, .mv (.t 28), [], none⟩,
         ⟨some 30, .mv (.t 9), [], some (29, false)⟩,
         ⟨some 31, .bin 0 .eql (.t 30) (.c (.int .i64 0)), [], some (29, false)⟩,
         ⟨some 32, .mv (.t 31), [], some (29, false)⟩,
         ⟨some 33, .fa false 1 0 (.t 2), [], some (32, true)⟩,
         ⟨some 34, .ld false 1 (.t 33), [], some (32, true)⟩,
         ⟨some 35, .fa false 1 1 (.t 2), [], some (32, true)⟩,
         ⟨some 36, .ld false 1 (.t 35), [], some (32, true)⟩,
         ⟨some 37, .call (.c (.fn (.func 136) [] [])) [.t 34, .t 36], [], some (32, true)⟩,
         ⟨some 38, .fld false 1 0 (.t 37), [], some (32, true)⟩,
         ⟨some 39, .un .not (.t 38), [], some (32, true)⟩,
         ⟨some 40, .pick (.t 32) (.t 39) (.c (.bool false)), [], some (29, false)⟩,
         ⟨some 41, .pick (.t 29) (.c (.bool true)) (.t 40), [], none⟩])
      (.seq (.live [2, 4, 6, 41]) (.cnd (.t 41) (.reg [⟨some 42, .mv (.t 6), [], none⟩,
          ⟨some 43, .bsl true 1 (.int .u64 0) 1 [(0, .c (.int .u64 1))], [], none⟩,
          ⟨some 44, .call (.c (.fn (.func 238) [] [])) [.t 42, .t 43], [], none⟩,
          ⟨some 6, .mv (.t 44), [], none⟩])
       .skip)))
     (.seq (.live [2, 4, 6]) (.seq (.reg [⟨some 45, .fa false 1 0 (.t 2), [], none⟩,
         ⟨some 46, .ld false 1 (.t 45), [], none⟩,
         ⟨some 47, .mv (.t 6), [], none⟩,
         ⟨some 48, .call (.c (.fn (.func 136) [] [])) [.t 46, .t 47], [], none⟩,
         ⟨none, .st 2 (.t 4) (.t 48), [], none⟩,
         ⟨some 5, .mv (.c (.int .i64 0)), [], none⟩])
      .ret))))))))))) }

/-- (arras/scale.near).of -/
def ir168 : IFn :=
 { nt := 19, res := [.cell 4 true 2],
   body := (.seq (.reg [⟨some 2, .box 2 (.t 0), [], none⟩,
    ⟨some 3, .box 2 (.t 1), [], none⟩,
    ⟨some 4, .new (.agg [.bool false, .lit (.slice none 0 0)]), [], none⟩])
 (.seq (.live [2, 3, 4]) (.seq (.drw [⟨some 8, .ld true 2 (.t 3), [], none⟩,
     ⟨some 9, .fa false 1 0 (.t 2), [], none⟩,
     ⟨some 10, .ld false 1 (.t 9), [1], none⟩,
     ⟨some 11, .build [.bool false, .lit (.slice none 0 0)] [(1, 1, .t 10)], [2], none⟩,
     ⟨some 12, .call (.c (.fn (.func 64) [] [])) [.t 8, .t 11], [0, 3], none⟩,
     ⟨some 13, .fa false 1 1 (.t 2), [], none⟩,
     ⟨some 14, .ld false 1 (.t 13), [5], none⟩,
     ⟨some 15, .call (.c (.fn (.func 217) [] [])) [.t 12, .t 14], [4, 6], none⟩,
     ⟨some 7, .mv (.t 15), [7], none⟩,
     ⟨some 16, .ext (.t 7) 0, [8], none⟩,
     ⟨some 17, .ext (.t 7) 1, [8], none⟩,
     ⟨some 5, .new (.agg [.bool false, .lit (.slice none 0 0)]), [], none⟩,
     ⟨none, .st 2 (.t 5) (.t 16), [11, 9, 7, 0, 1, 2, 3, 4, 5, 6, 8], none⟩,
     ⟨some 6, .mv (.t 17), [10, 12, 0, 1, 2, 3, 4, 5, 6, 7, 8, 9, 11], none⟩])
  (.seq (.live [4, 5]) (.seq (.reg [⟨some 18, .ld true 2 (.t 5), [], none⟩,
      ⟨none, .st 2 (.t 4) (.t 18), [], none⟩])
   .ret))))) }

/-- (*arras/scale.Scale).Dot -/
def ir93 : IFn :=
 { nt := 173, res := [.cell 6 true 1, .t 7],
   body := (.seq (.reg [⟨some 6, .new (.agg [.lit (.slice none 0 0)]), [], none⟩,
    ⟨some 7, .mv (.c (.int .i64 0)), [], none⟩])
 (.seq (.live [0, 1, 2, 6, 30, 31, 32, 35, 36, 37, 38, 39, 79, 80, 81]) (.seq (.seq (.reg [⟨some 23, .mv (.t 0), [], none⟩,
      ⟨some 24, .bin 2 .eql (.t 23) (.c (.lit (.pointer none))), [], none⟩])
   (.seq (.live [0, 1, 2, 6, 24, 30, 31, 32, 35, 36, 37, 38, 39, 79, 80, 81]) (.cnd (.t 24) (.seq (.reg [⟨some 25, .build [.lit (.slice none 0 0)] [], [], none⟩,
        ⟨none, .st 1 (.t 6) (.t 25), [], none⟩,
        ⟨some 7, .mv (.c (.int .i64 1)), [], none⟩])
     .ret)
    .skip)))
  (.seq (.live [0, 1, 2, 6, 30, 31, 32, 35, 36, 37, 38, 39, 79, 80, 81]) (.seq (.seq (.reg [⟨some 26, .mv (.t 1), [], none⟩,
       ⟨some 27, .len (.t 26), [], none⟩,
       ⟨some 28, .bin 0 .lss (.t 27) (.c (.int .i64 1)), [], none⟩,
       ⟨some 29, .mv (.t 28), [], none⟩,
       ⟨some 30, .mv (.t 1), [], some (29, false)⟩,
       ⟨some 31, .len (.t 30), [], some (29, false)⟩,
       ⟨some 32, .bin 0 .gtr (.t 31) (.c (.int .i64 4)), [], some (29, false)⟩,
       ⟨some 33, .pick (.t 29) (.c (.bool true)) (.t 32), [], none⟩,
       ⟨some 34, .mv (.t 33), [], none⟩,
       ⟨some 35, .mv (.t 1), [], some (34, false)⟩,
       ⟨some 36, .len (.t 35), [], some (34, false)⟩,
       ⟨some 37, .mv (.t 2), [], some (34, false)⟩,
       ⟨some 38, .len (.t 37), [], some (34, false)⟩,
       ⟨some 39, .bin 0 .neq (.t 36) (.t 38), [], some (34, false)⟩,
       ⟨some 40, .pick (.t 34) (.c (.bool true)) (.t 39), [], none⟩])
    (.seq (.live [0, 1, 2, 6, 40, 79, 80, 81]) (.cnd (.t 40) (.seq (.reg [⟨some 41, .build [.lit (.slice none 0 0)] [], [], none⟩,
         ⟨none, .st 1 (.t 6) (.t 41), [], none⟩,
         ⟨some 7, .mv (.c (.int .i64 3)), [], none⟩])
      .ret)
     .skip)))
   (.seq (.live [0, 1, 2, 6, 79, 80, 81]) (.seq (.reg [⟨some 8, .mv (.c (.int .i64 (-1))), [], none⟩,
       ⟨some 9, .mv (.c (.int .i64 0)), [], none⟩])
    (.seq (.live [0, 1, 2, 6, 8, 9, 79, 80, 81]) (.seq (.seq (.reg [⟨some 42, .mv (.t 1), [], none⟩,
         ⟨some 43, .len (.t 42), [], none⟩,
         ⟨some 44, .bin 0 .mul (.c (.int .i64 2)) (.t 43), [], none⟩,
         ⟨some 45, .mv (.c (.int .i64 0)), [], none⟩])
      (.seq (.live [0, 1, 2, 6, 8, 9, 44, 45, 79, 80, 81]) (.blk 0 (.loop (.seq (.live [0, 1, 2, 6, 8, 9, 44, 45, 79, 80, 81]) (.seq (.reg [⟨some 46, .bin 0 .lss (.t 45) (.t 44), [], none⟩])
         (.seq (.live [0, 1, 2, 6, 8, 9, 44, 45, 46, 79, 80, 81]) (.seq (.cnd (.t 46) .skip
           (.exit 0))
          (.seq (.blk 1 (.seq (.reg [⟨some 47, .mv (.t 45), [], none⟩,
                ⟨some 10, .mv (.t 47), [], none⟩])
             (.seq (.live [0, 1, 2, 6, 8, 9, 10, 44, 45, 79, 80, 81]) (.seq (.reg [⟨some 48, .mv (.t 1), [], none⟩,
                 ⟨some 49, .mv (.t 10), [], none⟩,
                 ⟨some 50, .bin 0 .quo (.t 49) (.c (.int .i64 2)), [], none⟩,
                 ⟨some 51, .ia 1 (.t 48) (.t 50), [], none⟩,
                 ⟨some 52, .ld true 1 (.t 51), [], none⟩,
                 ⟨some 11, .new (.agg [.lit (.slice none 0 0)]), [], none⟩,
                 ⟨none, .st 1 (.t 11) (.t 52), [], none⟩])
              (.seq (.live [0, 1, 2, 6, 8, 9, 10, 11, 44, 45, 79, 80, 81]) (.seq (.seq (.reg [⟨some 53, .mv (.t 10), [], none⟩,
                   ⟨some 54, .bin 0 .rem (.t 53) (.c (.int .i64 2)), [], none⟩,
                   ⟨some 55, .bin 0 .eql (.t 54) (.c (.int .i64 1)), [], none⟩])
                (.seq (.live [0, 1, 2, 6, 8, 9, 10, 11, 44, 45, 55, 79, 80, 81]) (.cnd (.t 55) (.reg [⟨some 56, .mv (.t 2), [], none⟩,
                    ⟨some 57, .mv (.t 10), [], none⟩,
                    ⟨some 58, .bin 0 .quo (.t 57) (.c (.int .i64 2)), [], none⟩,
                    ⟨some 59, .ia 1 (.t 56) (.t 58), [], none⟩,
                    ⟨some 60, .ld true 1 (.t 59), [], none⟩,
                    ⟨none, .st 1 (.t 11) (.t 60), [], none⟩])
                 .skip)))
               (.seq (.live [0, 1, 2, 6, 8, 9, 11, 44, 45, 79, 80, 81]) (.seq (.drw [⟨some 62, .mv (.t 0), [], none⟩,
                   ⟨some 63, .nilc (.t 62), [0], none⟩,
                   ⟨some 64, .fa false 1 4 (.t 63), [1], none⟩,
                   ⟨some 65, .ld false 1 (.t 64), [2], none⟩,
                   ⟨some 66, .ld true 1 (.t 11), [], none⟩,
                   ⟨some 67, .call (.c (.fn (.func 165) [] [])) [.t 65, .t 66], [3, 4], none⟩,
                   ⟨some 61, .mv (.t 67), [5], none⟩,
                   ⟨some 68, .ext (.t 61) 0, [6], none⟩,
                   ⟨some 69, .ext (.t 61) 1, [6], none⟩,
                   ⟨some 12, .mv (.t 68), [7, 5, 0, 1, 2, 3, 4, 6], none⟩,
                   ⟨some 13, .mv (.t 69), [8, 9, 0, 1, 2, 3, 4, 5, 6, 7], none⟩])
                (.seq (.live [0, 1, 2, 6, 8, 9, 12, 13, 44, 45, 79, 80, 81]) (.seq (.blk 2 (.seq (.reg [⟨some 71, .mv (.t 13), [], none⟩,
                      ⟨some 72, .bin 0 .neq (.t 71) (.c (.int .i64 0)), [], none⟩,
                      ⟨some 70, .mv (.t 72), [], none⟩])
                   (.seq (.live [0, 1, 2, 6, 8, 9, 12, 13, 44, 45, 70, 79, 80, 81]) (.cnd (.t 70) (.seq (.reg [⟨some 73, .build [.lit (.slice none 0 0)] [], [], none⟩,
                        ⟨some 74, .mv (.t 13), [], none⟩,
                        ⟨none, .st 1 (.t 6) (.t 73), [], none⟩,
                        ⟨some 7, .mv (.t 74), [], none⟩])
                     .ret)
                    (.seq (.reg [⟨some 76, .mv (.t 8), [], none⟩,
                        ⟨some 77, .bin 0 .geq (.t 76) (.c (.int .i64 0)), [], none⟩,
                        ⟨some 78, .mv (.t 77), [], none⟩,
                        ⟨some 79, .mv (.t 12), [], some (78, true)⟩,
                        ⟨some 80, .mv (.t 8), [], some (78, true)⟩,
                        ⟨some 81, .bin 0 .neq (.t 79) (.t 80), [], some (78, true)⟩,
                        ⟨some 82, .pick (.t 78) (.t 81) (.c (.bool false)), [], none⟩,
                        ⟨some 75, .mv (.t 82), [], none⟩])
                     (.seq (.live [0, 1, 2, 6, 8, 9, 12, 44, 45, 75, 79, 80, 81]) (.cnd (.t 75) (.reg [⟨some 9, .mv (.c (.int .i64 10)), [], none⟩])
                      .skip)))))))
                 (.seq (.live [0, 1, 2, 6, 8, 9, 12, 44, 45, 79, 80, 81]) (.seq (.reg [⟨some 83, .mv (.t 8), [], none⟩,
                     ⟨some 84, .bin 0 .lss (.t 83) (.c (.int .i64 0)), [], none⟩])
                  (.seq (.live [0, 1, 2, 6, 8, 9, 12, 44, 45, 79, 80, 81, 84]) (.cnd (.t 84) (.reg [⟨some 85, .mv (.t 12), [], none⟩,
                      ⟨some 8, .mv (.t 85), [], none⟩])
                   .skip))))))))))))))
           (.seq (.live [0, 1, 2, 6, 8, 9, 44, 45, 79, 80, 81]) (.reg [⟨some 86, .bin 0 .add (.t 45) (.c (.int .i64 1)), [], none⟩,
              ⟨some 45, .mv (.t 86), [], none⟩])))))))))))
     (.seq (.live [0, 1, 2, 6, 8, 9]) (.seq (.seq (.reg [⟨some 87, .mv (.t 9), [], none⟩,
          ⟨some 88, .bin 0 .neq (.t 87) (.c (.int .i64 0)), [], none⟩])
       (.seq (.live [0, 1, 2, 6, 8, 9, 88]) (.cnd (.t 88) (.seq (.reg [⟨some 89, .build [.lit (.slice none 0 0)] [], [], none⟩,
            ⟨some 90, .mv (.t 9), [], none⟩,
            ⟨none, .st 1 (.t 6) (.t 89), [], none⟩,
            ⟨some 7, .mv (.t 90), [], none⟩])
         .ret)
        .skip)))
      (.seq (.live [0, 1, 2, 6, 8]) (.seq (.reg [⟨some 91, .mv (.t 0), [], none⟩,
          ⟨some 92, .nilc (.t 91), [], none⟩,
          ⟨some 93, .fa true 4 0 (.t 92), [], none⟩,
          ⟨some 94, .fa false 1 2 (.t 93), [], none⟩,
          ⟨some 95, .ld false 1 (.t 94), [], none⟩,
          ⟨some 96, .mv (.t 8), [], none⟩,
          ⟨some 97, .bin 0 .add (.t 96) (.c (.int .i64 1)), [], none⟩,
          ⟨some 98, .slc 1 (.t 95) none (some (.t 97)) none, [], none⟩,
          ⟨some 14, .mv (.t 98), [], none⟩])
       (.seq (.live [0, 1, 2, 6, 14]) (.seq (.reg [⟨some 15, .new (.agg [.lit (.slice none 0 0)]), [], none⟩])
        (.seq (.live [0, 1, 2, 6, 14, 15]) (.seq (.seq (.reg [⟨some 99, .mv (.t 1), [], none⟩,
             ⟨some 100, .len (.t 99), [], none⟩,
             ⟨some 101, .mv (.c (.int .i64 0)), [], none⟩])
          (.seq (.live [0, 1, 2, 6, 14, 15, 100, 101]) (.blk 3 (.loop (.seq (.live [0, 1, 2, 6, 14, 15, 100, 101]) (.seq (.reg [⟨some 102, .bin 0 .lss (.t 101) (.t 100), [], none⟩])
             (.seq (.live [0, 1, 2, 6, 14, 15, 100, 101, 102]) (.seq (.cnd (.t 102) .skip
               (.exit 3))
              (.seq (.blk 4 (.seq (.reg [⟨some 103, .mv (.t 101), [], none⟩,
                    ⟨some 16, .mv (.t 103), [], none⟩])
                 (.seq (.live [0, 1, 2, 6, 14, 15, 16, 100, 101]) (.seq (.drw [⟨some 105, .mv (.t 1), [], none⟩,
                     ⟨some 106, .mv (.t 16), [], none⟩,
                     ⟨some 107, .ia 1 (.t 105) (.t 106), [0, 1], none⟩,
                     ⟨some 108, .ld true 1 (.t 107), [2], none⟩,
                     ⟨some 109, .mv (.t 14), [], none⟩,
                     ⟨some 110, .mv (.t 0), [], none⟩,
                     ⟨some 111, .nilc (.t 110), [5], none⟩,
                     ⟨some 112, .fa false 1 6 (.t 111), [6], none⟩,
                     ⟨some 113, .ld false 1 (.t 112), [7], none⟩,
                     ⟨some 114, .call (.c (.fn (.func 166) [] [])) [.t 108, .t 109, .t 113, .c (.fn (.func 167) [] [])], [3, 4, 8], none⟩,
                     ⟨some 104, .mv (.t 114), [9], none⟩,
                     ⟨some 115, .ext (.t 104) 0, [10], none⟩,
                     ⟨some 116, .ext (.t 104) 1, [10], none⟩,
                     ⟨some 17, .new (.agg [.lit (.slice none 0 0)]), [], none⟩,
                     ⟨none, .st 1 (.t 17) (.t 115), [13, 11, 9, 0, 1, 2, 3, 4, 5, 6, 7, 8, 10], none⟩,
                     ⟨some 18, .mv (.t 116), [12, 14, 0, 1, 2, 3, 4, 5, 6, 7, 8, 9, 10, 11, 13], none⟩])
                  (.seq (.live [0, 1, 2, 6, 14, 15, 16, 17, 100, 101]) (.seq (.drw [⟨some 118, .mv (.t 2), [], none⟩,
                      ⟨some 119, .mv (.t 16), [], none⟩,
                      ⟨some 120, .ia 1 (.t 118) (.t 119), [0, 1], none⟩,
                      ⟨some 121, .ld true 1 (.t 120), [2], none⟩,
                      ⟨some 122, .mv (.t 14), [], none⟩,
                      ⟨some 123, .mv (.t 0), [], none⟩,
                      ⟨some 124, .nilc (.t 123), [5], none⟩,
                      ⟨some 125, .fa false 1 6 (.t 124), [6], none⟩,
                      ⟨some 126, .ld false 1 (.t 125), [7], none⟩,
                      ⟨some 127, .call (.c (.fn (.func 166) [] [])) [.t 121, .t 122, .t 126, .c (.fn (.func 167) [] [])], [3, 4, 8], none⟩,
                      ⟨some 117, .mv (.t 127), [9], none⟩,
                      ⟨some 128, .ext (.t 117) 0, [10], none⟩,
                      ⟨some 129, .ext (.t 117) 1, [10], none⟩,
                      ⟨some 19, .new (.agg [.lit (.slice none 0 0)]), [], none⟩,
                      ⟨none, .st 1 (.t 19) (.t 128), [13, 11, 9, 0, 1, 2, 3, 4, 5, 6, 7, 8, 10], none⟩,
                      ⟨some 20, .mv (.t 129), [12, 14, 0, 1, 2, 3, 4, 5, 6, 7, 8, 9, 10, 11, 13], none⟩])
                   (.seq (.live [0, 1, 2, 6, 14, 15, 16, 17, 19, 100, 101]) (.seq (.drw [⟨some 131, .mv (.t 0), [], none⟩,
                       ⟨some 132, .nilc (.t 131), [0], none⟩,
                       ⟨some 133, .fa false 1 5 (.t 132), [1], none⟩,
                       ⟨some 134, .ld false 1 (.t 133), [2], none⟩,
                       ⟨some 135, .ld true 1 (.t 17), [], none⟩,
                       ⟨some 136, .ld true 1 (.t 19), [], none⟩,
                       ⟨some 137, .call (.c (.fn (.func 97) [] [])) [.t 134, .t 135, .t 136], [3, 4, 5], none⟩,
                       ⟨some 130, .mv (.t 137), [6], none⟩,
                       ⟨some 138, .ext (.t 130) 0, [7], none⟩,
                       ⟨some 139, .ext (.t 130) 1, [7], none⟩,
                       ⟨some 21, .new (.agg [.lit (.slice none 0 0)]), [], none⟩,
                       ⟨none, .st 1 (.t 21) (.t 138), [10, 8, 6, 0, 1, 2, 3, 4, 5, 7], none⟩,
                       ⟨some 22, .mv (.t 139), [9, 11, 0, 1, 2, 3, 4, 5, 6, 7, 8, 10], none⟩])
                    (.seq (.live [0, 1, 2, 6, 14, 15, 16, 21, 100, 101]) (.seq (.seq (.reg [⟨some 140, .mv (.t 16), [], none⟩,
                         ⟨some 141, .bin 0 .gtr (.t 140) (.c (.int .i64 0)), [], none⟩])
                      (.seq (.live [0, 1, 2, 6, 14, 15, 21, 100, 101, 141]) (.cnd (.t 141) (.drw [⟨some 143, .mv (.t 0), [], none⟩,
                          ⟨some 144, .nilc (.t 143), [0], none⟩,
                          ⟨some 145, .fa false 1 5 (.t 144), [1], none⟩,
                          ⟨some 146, .ld false 1 (.t 145), [2], none⟩,
                          ⟨some 147, .ld true 1 (.t 15), [], none⟩,
                          ⟨some 148, .ld true 1 (.t 21), [], none⟩,
                          ⟨some 149, .call (.c (.fn (.func 60) [] [])) [.t 146, .t 147, .t 148], [3, 4, 5], none⟩,
                          ⟨some 142, .mv (.t 149), [6], none⟩,
                          ⟨some 150, .ext (.t 142) 0, [7], none⟩,
                          ⟨some 151, .ext (.t 142) 1, [7], none⟩,
                          ⟨none, .st 1 (.t 21) (.t 150), [8, 6, 0, 1, 2, 3, 4, 5, 7], none⟩])
                       .skip)))
                     (.seq (.live [0, 1, 2, 6, 14, 15, 21, 100, 101]) (.reg [⟨some 152, .ld true 1 (.t 21), [], none⟩,
                        ⟨none, .st 1 (.t 15) (.t 152), [], none⟩]))))))))))))
               (.seq (.live [0, 1, 2, 6, 14, 15, 100, 101]) (.reg [⟨some 153, .bin 0 .add (.t 101) (.c (.int .i64 1)), [], none⟩,
                  ⟨some 101, .mv (.t 153), [], none⟩])))))))))))
         (.seq (.live [0, 6, 14, 15]) (.seq (.drw [⟨some 154, .ld true 1 (.t 15), [], none⟩,
             ⟨some 155, .mv (.t 0), [], none⟩,
             ⟨some 156, .nilc (.t 155), [1], none⟩,
             ⟨some 157, .fa false 1 6 (.t 156), [2], none⟩,
             ⟨some 158, .ld false 1 (.t 157), [3], none⟩,
             ⟨some 159, .mv (.t 14), [], none⟩,
             ⟨some 160, .mv (.t 0), [], none⟩,
             ⟨some 161, .nilc (.t 160), [6], none⟩,
             ⟨some 162, .fa true 4 0 (.t 161), [7], none⟩,
             ⟨some 163, .fa false 1 1 (.t 162), [8], none⟩,
             ⟨some 164, .ld false 1 (.t 163), [9], none⟩,
             ⟨some 165, .call (.c (.fn (.func 65) [] [])) [.t 164], [10], none⟩,
             ⟨some 166, .mv (.t 14), [], none⟩,
             ⟨some 167, .call (.c (.fn (.func 123) [] [])) [.t 166], [12, 11], none⟩,
             ⟨some 168, .build [.lit (.slice none 0 0), .lit (.slice none 0 0)] [(0, 1, .t 165), (1, 1, .t 167)], [11, 13], none⟩,
             ⟨some 169, .mkfn (.func 168) [.t 168] [], [14], none⟩,
             ⟨some 170, .call (.c (.fn (.func 166) [] [])) [.t 154, .t 158, .t 159, .t 169], [0, 4, 5, 15, 13], none⟩,
             ⟨some 171, .ext (.t 170) 0, [16], none⟩,
             ⟨some 172, .ext (.t 170) 1, [16], none⟩,
             ⟨none, .st 1 (.t 6) (.t 171), [17, 16, 0, 1, 2, 3, 4, 5, 6, 7, 8, 9, 10, 11, 12, 13, 14, 15, 18], none⟩,
             ⟨some 7, .mv (.t 172), [18, 19, 0, 1, 2, 3, 4, 5, 6, 7, 8, 9, 10, 11, 12, 13, 14, 15, 16, 17], none⟩])
          .ret))))))))))))))))))) }

/-- (*arras/eval.Eval).Mul -/
def ir28 : IFn :=
 { nt := 109, res := [.cell 6 true 1, .t 7],
   body := (.seq (.reg [⟨some 4, .box 1 (.t 1), [], none⟩,
    ⟨some 5, .box 1 (.t 2), [], none⟩,
    ⟨some 6, .new (.agg [.lit (.slice none 0 0)]), [], none⟩,
    ⟨some 7, .mv (.c (.int .i64 0)), [], none⟩])
 (.seq (.live [0, 4, 5, 6, 35, 36, 37, 38]) (.seq (.reg [⟨some 17, .mv (.t 0), [], none⟩,
     ⟨some 18, .ld true 1 (.t 4), [], none⟩,
     ⟨some 19, .ld true 1 (.t 5), [], none⟩,
     ⟨some 20, .bsl false 1 (.agg [.lit (.slice none 0 0)]) 2 [(0, .t 18), (1, .t 19)], [], none⟩,
     ⟨some 21, .call (.c (.fn (.func 58) [] [])) [.t 17, .t 20], [], none⟩,
     ⟨some 16, .mv (.t 21), [], none⟩,
     ⟨some 22, .ext (.t 16) 0, [], none⟩,
     ⟨some 23, .ext (.t 16) 1, [], none⟩,
     ⟨some 8, .mv (.t 22), [], none⟩,
     ⟨some 9, .mv (.t 23), [], none⟩])
  (.seq (.live [0, 4, 5, 6, 8, 9, 35, 36, 37, 38]) (.seq (.blk 0 (.seq (.reg [⟨some 25, .mv (.t 9), [], none⟩,
        ⟨some 26, .bin 0 .neq (.t 25) (.c (.int .i64 0)), [], none⟩,
        ⟨some 24, .mv (.t 26), [], none⟩])
     (.seq (.live [0, 4, 5, 6, 8, 9, 24, 35, 36, 37, 38]) (.cnd (.t 24) (.seq (.reg [⟨some 27, .build [.lit (.slice none 0 0)] [], [], none⟩,
          ⟨some 28, .mv (.t 9), [], none⟩,
          ⟨none, .st 1 (.t 6) (.t 27), [], none⟩,
          ⟨some 7, .mv (.t 28), [], none⟩])
       .ret)
      (.seq (.reg [⟨some 30, .fa false 1 0 (.t 4), [], none⟩,
          ⟨some 31, .ld false 1 (.t 30), [], none⟩,
          ⟨some 32, .len (.t 31), [], none⟩,
          ⟨some 33, .bin 0 .gtr (.t 32) (.c (.int .i64 2)), [], none⟩,
          ⟨some 34, .mv (.t 33), [], none⟩,
          ⟨some 35, .fa false 1 0 (.t 5), [], some (34, false)⟩,
          ⟨some 36, .ld false 1 (.t 35), [], some (34, false)⟩,
          ⟨some 37, .len (.t 36), [], some (34, false)⟩,
          ⟨some 38, .bin 0 .gtr (.t 37) (.c (.int .i64 2)), [], some (34, false)⟩,
          ⟨some 39, .pick (.t 34) (.c (.bool true)) (.t 38), [], none⟩,
          ⟨some 29, .mv (.t 39), [], none⟩])
       (.seq (.live [0, 4, 5, 6, 8, 29]) (.cnd (.t 29) (.seq (.reg [⟨some 40, .build [.lit (.slice none 0 0)] [], [], none⟩,
            ⟨none, .st 1 (.t 6) (.t 40), [], none⟩,
            ⟨some 7, .mv (.c (.int .i64 4)), [], none⟩])
         .ret)
        (.seq (.drw [⟨some 42, .mv (.t 8), [], none⟩,
            ⟨some 43, .ia 1 (.t 42) (.c (.int .i64 0)), [0], none⟩,
            ⟨some 44, .ld false 1 (.t 43), [1], none⟩,
            ⟨some 45, .mv (.t 8), [], none⟩,
            ⟨some 46, .ia 1 (.t 45) (.c (.int .i64 1)), [3], none⟩,
            ⟨some 47, .ld false 1 (.t 46), [4], none⟩,
            ⟨some 48, .bin 0 .neq (.t 44) (.t 47), [2, 5], none⟩,
            ⟨some 41, .mv (.t 48), [6], none⟩])
         (.seq (.live [0, 4, 5, 6, 41]) (.cnd (.t 41) (.seq (.reg [⟨some 49, .build [.lit (.slice none 0 0)] [], [], none⟩,
              ⟨none, .st 1 (.t 6) (.t 49), [], none⟩,
              ⟨some 7, .mv (.c (.int .i64 10)), [], none⟩])
           .ret)
          .skip))))))))))
   (.seq (.live [0, 4, 5, 6]) (.seq (.drw [⟨some 50, .build [.lit (.slice none 0 0)] [], [], none⟩,
       ⟨some 51, .mv (.t 0), [], none⟩,
       ⟨some 52, .nilc (.t 51), [1], none⟩,
       ⟨some 53, .fa false 1 5 (.t 52), [2], none⟩,
       ⟨some 54, .ld false 1 (.t 53), [3], none⟩,
       ⟨some 55, .mkfn (.func 93) [.t 54] [], [4], none⟩,
       ⟨some 10, .new (.agg [.lit (.slice none 0 0)]), [], none⟩,
       ⟨none, .st 1 (.t 10) (.t 50), [6, 0], none⟩,
       ⟨some 11, .mv (.t 55), [5, 7, 0, 1, 2, 3, 4, 6], none⟩])
    (.seq (.live [4, 5, 6, 10, 11]) (.seq (.seq (.drw [⟨some 56, .fa false 1 0 (.t 4), [], none⟩,
         ⟨some 57, .ld false 1 (.t 56), [0], none⟩,
         ⟨some 58, .slc 1 (.t 57) none (some (.c (.int .i64 1))) none, [1], none⟩,
         ⟨some 59, .fa false 1 0 (.t 5), [], none⟩,
         ⟨some 60, .ld false 1 (.t 59), [3], none⟩,
         ⟨some 61, .slc 1 (.t 60) none (some (.c (.int .i64 1))) none, [4], none⟩,
         ⟨some 62, .build [.lit (.slice none 0 0), .lit (.slice none 0 0)] [(0, 1, .t 58), (1, 1, .t 61)], [2, 5], none⟩,
         ⟨some 63, .fa false 1 0 (.t 4), [], none⟩,
         ⟨some 64, .ld false 1 (.t 63), [7], none⟩,
         ⟨some 65, .fa false 1 0 (.t 5), [], none⟩,
         ⟨some 66, .ld false 1 (.t 65), [9], none⟩,
         ⟨some 67, .ia 1 (.t 66) (.c (.int .i64 1)), [10], none⟩,
         ⟨some 68, .ld true 1 (.t 67), [11], none⟩,
         ⟨some 69, .fa false 1 0 (.t 5), [], none⟩,
         ⟨some 70, .ld false 1 (.t 69), [13], none⟩,
         ⟨some 71, .ia 1 (.t 70) (.c (.int .i64 0)), [14], none⟩,
         ⟨some 72, .ld true 1 (.t 71), [15], none⟩,
         ⟨some 73, .bsl false 1 (.agg [.lit (.slice none 0 0)]) 2 [(0, .t 68), (1, .t 72)], [12, 16], none⟩,
         ⟨some 74, .build [.lit (.slice none 0 0), .lit (.slice none 0 0)] [(0, 1, .t 64), (1, 1, .t 73)], [8, 17], none⟩,
         ⟨some 75, .fa false 1 0 (.t 4), [], none⟩,
         ⟨some 76, .ld false 1 (.t 75), [19], none⟩,
         ⟨some 77, .slc 1 (.t 76) (some (.c (.int .i64 1))) none none, [20], none⟩,
         ⟨some 78, .fa false 1 0 (.t 5), [], none⟩,
         ⟨some 79, .ld false 1 (.t 78), [22], none⟩,
         ⟨some 80, .slc 1 (.t 79) (some (.c (.int .i64 1))) none none, [23], none⟩,
         ⟨some 81, .build [.lit (.slice none 0 0), .lit (.slice none 0 0)] [(0, 1, .t 77), (1, 1, .t 80)], [21, 24], none⟩,
         ⟨some 82, .bsl false 2 (.agg [.lit (.slice none 0 0), .lit (.slice none 0 0)]) 3 [(0, .t 62), (1, .t 74), (2, .t 81)], [6, 18, 25], none⟩,
         ⟨some 83, .len (.t 82), [26], none⟩,
         ⟨some 84, .mv (.c (.int .i64 0)), [], none⟩])
      (.seq (.live [6, 10, 11, 82, 83, 84]) (.blk 1 (.loop (.seq (.live [6, 10, 11, 82, 83, 84]) (.seq (.reg [⟨some 85, .bin 0 .lss (.t 84) (.t 83), [], none⟩])
         (.seq (.live [6, 10, 11, 82, 83, 84, 85]) (.seq (.cnd (.t 85) .skip
           (.exit 1))
          (.seq (.blk 2 (.seq (.reg [⟨some 86, .ia 2 (.t 82) (.t 84), [], none⟩,
                ⟨some 87, .ld true 2 (.t 86), [], none⟩,
                ⟨some 13, .new (.agg [.lit (.slice none 0 0), .lit (.slice none 0 0)]), [], none⟩,
                ⟨none, .st 2 (.t 13) (.t 87), [], none⟩])
             (.seq (.live [6, 10, 11, 13, 82, 83, 84]) (.seq (.reg [⟨some 89, .mv (.t 11), [], none⟩,
                 ⟨some 90, .iarr 2 1 false (.t 13) (.c (.int .i64 0)), [], none⟩,
                 ⟨some 91, .ld false 1 (.t 90), [], none⟩,
                 ⟨some 92, .iarr 2 1 false (.t 13) (.c (.int .i64 1)), [], none⟩,
                 ⟨some 93, .ld false 1 (.t 92), [], none⟩,
                 ⟨some 94, .call (.t 89) [.t 91, .t 93], [], none⟩,
                 ⟨some 88, .mv (.t 94), [], none⟩,
                 ⟨some 95, .ext (.t 88) 0, [], none⟩,
                 ⟨some 96, .ext (.t 88) 1, [], none⟩,
                 ⟨some 14, .new (.agg [.lit (.slice none 0 0)]), [], none⟩,
                 ⟨none, .st 1 (.t 14) (.t 95), [], none⟩,
                 ⟨some 15, .mv (.t 96), [], none⟩])
              (.seq (.live [6, 10, 11, 14, 15, 82, 83, 84]) (.seq (.seq (.reg [⟨some 97, .mv (.t 15), [], none⟩,
                   ⟨some 98, .bin 0 .neq (.t 97) (.c (.int .i64 0)), [], none⟩])
                (.seq (.live [6, 10, 11, 14, 15, 82, 83, 84, 98]) (.cnd (.t 98) (.seq (.reg [⟨some 99, .build [.lit (.slice none 0 0)] [], [], none⟩,
                     ⟨some 100, .mv (.t 15), [], none⟩,
                     ⟨none, .st 1 (.t 6) (.t 99), [], none⟩,
                     ⟨some 7, .mv (.t 100), [], none⟩])
                  .ret)
                 .skip)))
               (.seq (.live [6, 10, 11, 14, 82, 83, 84]) (.reg [⟨some 101, .fa false 1 0 (.t 10), [], none⟩,
                  ⟨some 102, .ld false 1 (.t 101), [], none⟩,
                  ⟨some 103, .ld true 1 (.t 14), [], none⟩,
                  ⟨some 104, .bsl false 1 (.agg [.lit (.slice none 0 0)]) 1 [(0, .t 103)], [], none⟩,
                  ⟨some 105, .app false 1 24 (.t 102) (.t 104), [], none⟩,
                  ⟨some 106, .fa false 1 0 (.t 10), [], none⟩,
                  ⟨none, .st 1 (.t 106) (.t 105), [], none⟩]))))))))
           (.seq (.live [6, 10, 11, 82, 83, 84]) (.reg [⟨some 107, .bin 0 .add (.t 84) (.c (.int .i64 1)), [], none⟩,
              ⟨some 84, .mv (.t 107), [], none⟩])))))))))))
     (.seq (.live [6, 10]) (.seq (.reg [⟨some 108, .ld true 1 (.t 10), [], none⟩,
         ⟨none, .st 1 (.t 6) (.t 108), [], none⟩,
         ⟨some 7, .mv (.c (.int .i64 0)), [], none⟩])
      .ret))))))))))) }

/-- arras/arrasref01.Add -/
def ir86 : IFn :=
 { nt := 28, res := [.t 6],
   body := (.seq (.reg [⟨some 6, .mv (.c (.int .u64 0)), [], none⟩])
 (.seq (.live [0, 1, 2]) (.seq (.seq (.reg [⟨some 7, .mv (.t 2), [], none⟩,
      ⟨some 8, .bin 0 .eql (.t 7) (.c (.int .u64 0)), [], none⟩])
   (.seq (.live [0, 1, 2, 8]) (.cnd (.t 8) (.seq (.reg [⟨some 6, .mv (.c (.int .u64 0)), [], none⟩])
     .ret)
    .skip)))
  (.seq (.live [0, 1, 2]) (.seq (.reg [⟨some 9, .mv (.t 0), [], none⟩,
      ⟨some 10, .mv (.t 2), [], none⟩,
      ⟨some 11, .bin 0 .rem (.t 9) (.t 10), [], none⟩,
      ⟨some 0, .mv (.t 11), [], none⟩])
   (.seq (.live [0, 1, 2]) (.seq (.reg [⟨some 12, .mv (.t 1), [], none⟩,
       ⟨some 13, .mv (.t 2), [], none⟩,
       ⟨some 14, .bin 0 .rem (.t 12) (.t 13), [], none⟩,
       ⟨some 1, .mv (.t 14), [], none⟩])
    (.seq (.live [0, 1, 2]) (.seq (.seq (.reg [⟨some 15, .mv (.t 1), [], none⟩,
         ⟨some 16, .mv (.t 2), [], none⟩,
         ⟨some 17, .mv (.t 0), [], none⟩,
         ⟨some 18, .bin 0 .sub (.t 16) (.t 17), [], none⟩,
         ⟨some 19, .bin 0 .geq (.t 15) (.t 18), [], none⟩])
      (.seq (.live [0, 1, 2, 19]) (.cnd (.t 19) (.seq (.reg [⟨some 20, .mv (.t 1), [], none⟩,
           ⟨some 21, .mv (.t 2), [], none⟩,
           ⟨some 22, .mv (.t 0), [], none⟩,
           ⟨some 23, .bin 0 .sub (.t 21) (.t 22), [], none⟩,
           ⟨some 24, .bin 0 .sub (.t 20) (.t 23), [], none⟩,
           ⟨some 6, .mv (.t 24), [], none⟩])
        .ret)
       .skip)))
     (.seq (.live [0, 1]) (.seq (.reg [⟨some 25, .mv (.t 0), [], none⟩,
         ⟨some 26, .mv (.t 1), [], none⟩,
         ⟨some 27, .bin 0 .add (.t 25) (.t 26), [], none⟩,
         ⟨some 6, .mv (.t 27), [], none⟩])
      .ret))))))))))) }

/-- arras/arrasref01.Sub -/
def ir102 : IFn :=
 { nt := 18, res := [.t 6],
   body := (.seq (.reg [⟨some 6, .mv (.c (.int .u64 0)), [], none⟩])
 (.seq (.live [0, 1, 2]) (.seq (.seq (.reg [⟨some 7, .mv (.t 2), [], none⟩,
      ⟨some 8, .bin 0 .eql (.t 7) (.c (.int .u64 0)), [], none⟩])
   (.seq (.live [0, 1, 2, 8]) (.cnd (.t 8) (.seq (.reg [⟨some 6, .mv (.c (.int .u64 0)), [], none⟩])
     .ret)
    .skip)))
  (.seq (.live [0, 1, 2]) (.seq (.reg [⟨some 9, .mv (.t 1), [], none⟩,
      ⟨some 10, .mv (.t 2), [], none⟩,
      ⟨some 11, .bin 0 .rem (.t 9) (.t 10), [], none⟩,
      ⟨some 1, .mv (.t 11), [], none⟩])
   (.seq (.live [0, 1, 2]) (.seq (.reg [⟨some 12, .mv (.t 0), [], none⟩,
       ⟨some 13, .mv (.t 2), [], none⟩,
       ⟨some 14, .mv (.t 1), [], none⟩,
       ⟨some 15, .bin 0 .sub (.t 13) (.t 14), [], none⟩,
       ⟨some 16, .mv (.t 2), [], none⟩,
       ⟨some 17, .call (.c (.fn (.func 86) [] [])) [.t 12, .t 15, .t 16], [], none⟩,
       ⟨some 6, .mv (.t 17), [], none⟩])
    .ret))))))) }

/-- arras/arrasref01.Lift -/
def ir114 : IFn :=
 { nt := 20, res := [.t 4],
   body := (.seq (.reg [⟨some 4, .mv (.c (.int .u64 0)), [], none⟩])
 (.seq (.live [0, 1]) (.seq (.seq (.reg [⟨some 5, .mv (.t 1), [], none⟩,
      ⟨some 6, .bin 0 .eql (.t 5) (.c (.int .u64 0)), [], none⟩])
   (.seq (.live [0, 1, 6]) (.cnd (.t 6) (.seq (.reg [⟨some 4, .mv (.c (.int .u64 0)), [], none⟩])
     .ret)
    .skip)))
  (.seq (.live [0, 1]) (.seq (.seq (.reg [⟨some 7, .mv (.t 0), [], none⟩,
       ⟨some 8, .bin 0 .lss (.t 7) (.c (.int .i64 0)), [], none⟩])
    (.seq (.live [0, 1, 8]) (.cnd (.t 8) (.seq (.reg [⟨some 9, .mv (.t 0), [], none⟩,
         ⟨some 10, .bin 0 .add (.t 9) (.c (.int .i64 1)), [], none⟩,
         ⟨some 11, .un .neg (.t 10), [], none⟩,
         ⟨some 12, .conv .u64 (.t 11), [], none⟩,
         ⟨some 13, .bin 0 .add (.t 12) (.c (.int .u64 1)), [], none⟩,
         ⟨some 14, .mv (.t 1), [], none⟩,
         ⟨some 15, .call (.c (.fn (.func 102) [] [])) [.c (.int .u64 0), .t 13, .t 14], [], none⟩,
         ⟨some 4, .mv (.t 15), [], none⟩])
      .ret)
     .skip)))
   (.seq (.live [0, 1]) (.seq (.reg [⟨some 16, .mv (.t 0), [], none⟩,
       ⟨some 17, .conv .u64 (.t 16), [], none⟩,
       ⟨some 18, .mv (.t 1), [], none⟩,
       ⟨some 19, .bin 0 .rem (.t 17) (.t 18), [], none⟩,
       ⟨some 4, .mv (.t 19), [], none⟩])
    .ret))))))) }

/-- arras/arrasref05.Lift -/
def ir49 : IFn :=
 { nt := 40, res := [.cell 6 true 1],
   body := (.seq (.reg [⟨some 6, .new (.agg [.lit (.slice none 0 0)]), [], none⟩])
 (.seq (.live [0, 1, 2, 6]) (.seq (.reg [⟨some 7, .new (.agg [.lit (.slice none 0 0)]), [], none⟩])
  (.seq (.live [0, 1, 2, 6, 7]) (.seq (.seq (.reg [⟨some 8, .mv (.c (.int .i64 0)), [], none⟩])
    (.seq (.live [0, 1, 2, 6, 7, 8]) (.blk 0 (.loop (.seq (.live [0, 1, 2, 6, 7, 8]) (.seq (.seq (.reg [⟨some 12, .mv (.t 8), [], none⟩,
           ⟨some 13, .mv (.t 2), [], none⟩,
           ⟨some 14, .bin 0 .leq (.t 12) (.t 13), [], none⟩])
        (.seq (.live [0, 1, 2, 6, 7, 8, 14]) (.cnd (.t 14) .skip
         (.exit 0))))
       (.seq (.live [0, 1, 2, 6, 7, 8]) (.seq (.blk 1 (.seq (.reg [⟨some 9, .mv (.c (.lit (.slice none 0 0))), [], none⟩])
          (.seq (.live [0, 1, 2, 6, 7, 8, 9]) (.seq (.seq (.reg [⟨some 17, .mv (.t 1), [], none⟩,
               ⟨some 18, .len (.t 17), [], none⟩,
               ⟨some 19, .mv (.c (.int .i64 0)), [], none⟩])
            (.seq (.live [0, 1, 2, 6, 7, 8, 9, 17, 18, 19]) (.blk 2 (.loop (.seq (.live [0, 1, 2, 6, 7, 8, 9, 17, 18, 19]) (.seq (.reg [⟨some 20, .bin 0 .lss (.t 19) (.t 18), [], none⟩])
               (.seq (.live [0, 1, 2, 6, 7, 8, 9, 17, 18, 19, 20]) (.seq (.cnd (.t 20) .skip
                 (.exit 2))
                (.seq (.blk 3 (.seq (.reg [⟨some 21, .ia 1 (.t 17) (.t 19), [], none⟩,
                      ⟨some 22, .ld false 1 (.t 21), [], none⟩,
                      ⟨some 11, .mv (.t 22), [], none⟩])
                   (.seq (.live [0, 1, 2, 6, 7, 8, 9, 11, 17, 18, 19]) (.reg [⟨some 23, .mv (.t 9), [], none⟩,
                      ⟨some 24, .mv (.t 11), [], none⟩,
                      ⟨some 25, .mv (.t 0), [], none⟩,
                      ⟨some 26, .mv (.t 8), [], none⟩,
                      ⟨some 27, .ia 1 (.t 25) (.t 26), [], none⟩,
                      ⟨some 28, .ld false 1 (.t 27), [], none⟩,
                      ⟨some 29, .call (.c (.fn (.func 114) [] [])) [.t 24, .t 28], [], none⟩,
                      ⟨some 30, .bsl true 1 (.int .u64 0) 1 [(0, .t 29)], [], none⟩,
                      ⟨some 31, .app true 1 8 (.t 23) (.t 30), [], none⟩,
                      ⟨some 9, .mv (.t 31), [], none⟩]))))
                 (.seq (.live [0, 1, 2, 6, 7, 8, 9, 17, 18, 19]) (.reg [⟨some 32, .bin 0 .add (.t 19) (.c (.int .i64 1)), [], none⟩,
                    ⟨some 19, .mv (.t 32), [], none⟩])))))))))))
           (.seq (.live [0, 1, 2, 6, 7, 8, 9]) (.reg [⟨some 33, .fa false 1 0 (.t 7), [], none⟩,
              ⟨some 34, .ld false 1 (.t 33), [], none⟩,
              ⟨some 35, .mv (.t 9), [], none⟩,
              ⟨some 36, .bsl false 1 (.lit (.slice none 0 0)) 1 [(0, .t 35)], [], none⟩,
              ⟨some 37, .app false 1 24 (.t 34) (.t 36), [], none⟩,
              ⟨some 38, .fa false 1 0 (.t 7), [], none⟩,
              ⟨none, .st 1 (.t 38) (.t 37), [], none⟩]))))))
        (.seq (.live [0, 1, 2, 6, 7, 8]) (.reg [⟨some 15, .mv (.t 8), [], none⟩,
           ⟨some 16, .bin 0 .add (.t 15) (.c (.int .i64 1)), [], none⟩,
           ⟨some 8, .mv (.t 16), [], none⟩]))))))))))
   (.seq (.live [6, 7]) (.seq (.reg [⟨some 39, .ld true 1 (.t 7), [], none⟩,
       ⟨none, .st 1 (.t 6) (.t 39), [], none⟩])
    .ret))))))) }

/-- arras/arraslaw13.fixed -/
def ir11 : IFn :=
 { nt := 65, res := [.t 0],
   body := (.seq (.reg [⟨some 0, .mv (.c (.bool false)), [], none⟩])
 (.seq (.live [58, 59, 62, 63]) (.seq (.reg [⟨some 10, .bsl true 1 (.int .u64 0) 2 [(0, .c (.int .u64 97)), (1, .c (.int .u64 193))], [], none⟩,
     ⟨some 11, .build [.int .i64 0, .int .u64 0, .lit (.slice none 0 0), .int .i64 0] [(0, 1, .c (.int .i64 8)), (1, 1, .c (.int .u64 17)), (2, 1, .t 10), (3, 1, .c (.int .i64 1))], [], none⟩,
     ⟨some 1, .new (.agg [.int .i64 0, .int .u64 0, .lit (.slice none 0 0), .int .i64 0]), [], none⟩,
     ⟨none, .st 4 (.t 1) (.t 11), [], none⟩])
  (.seq (.live [1, 58, 59, 62, 63]) (.seq (.reg [⟨some 13, .ld true 4 (.t 1), [], none⟩,
      ⟨some 14, .call (.c (.fn (.func 13) [] [])) [.t 13], [], none⟩,
      ⟨some 12, .mv (.t 14), [], none⟩,
      ⟨some 15, .ext (.t 12) 0, [], none⟩,
      ⟨some 16, .ext (.t 12) 1, [], none⟩,
      ⟨some 2, .mv (.t 15), [], none⟩,
      ⟨some 3, .mv (.t 16), [], none⟩])
   (.seq (.live [1, 2, 3, 58, 59, 62, 63]) (.seq (.drw [⟨some 17, .fa false 1 2 (.t 1), [], none⟩,
       ⟨some 18, .ld false 1 (.t 17), [0], none⟩,
       ⟨some 19, .mksl true 1 (.int .i64 0) 8 (.c (.int .i64 8)) (.c (.int .i64 8)), [], none⟩,
       ⟨some 20, .call (.c (.fn (.func 49) [] [])) [.t 18, .t 19, .c (.int .i64 0)], [1, 2], none⟩,
       ⟨some 21, .fa false 1 2 (.t 1), [], none⟩,
       ⟨some 22, .ld false 1 (.t 21), [4], none⟩,
       ⟨some 23, .mksl true 1 (.int .i64 0) 8 (.c (.int .i64 8)) (.c (.int .i64 8)), [], none⟩,
       ⟨some 24, .call (.c (.fn (.func 49) [] [])) [.t 22, .t 23, .c (.int .i64 0)], [5, 6, 3], none⟩,
       ⟨some 25, .bsl false 1 (.agg [.lit (.slice none 0 0)]) 2 [(0, .t 20), (1, .t 24)], [3, 7], none⟩,
       ⟨some 26, .build [.lit (.slice none 0 0)] [(0, 1, .t 25)], [8], none⟩,
       ⟨some 4, .new (.agg [.lit (.slice none 0 0)]), [], none⟩,
       ⟨none, .st 1 (.t 4) (.t 26), [10, 9, 7, 0, 1, 2, 3, 4, 5, 6, 8], none⟩])
    (.seq (.live [1, 2, 3, 4, 58, 59, 62, 63]) (.seq (.drw [⟨some 27, .fa false 1 2 (.t 1), [], none⟩,
        ⟨some 28, .ld false 1 (.t 27), [0], none⟩,
        ⟨some 29, .mksl true 1 (.int .i64 0) 8 (.c (.int .i64 8)) (.c (.int .i64 8)), [], none⟩,
        ⟨some 30, .call (.c (.fn (.func 49) [] [])) [.t 28, .t 29, .c (.int .i64 1)], [1, 2], none⟩,
        ⟨some 31, .fa false 1 2 (.t 1), [], none⟩,
        ⟨some 32, .ld false 1 (.t 31), [4], none⟩,
        ⟨some 33, .mksl true 1 (.int .i64 0) 8 (.c (.int .i64 8)) (.c (.int .i64 8)), [], none⟩,
        ⟨some 34, .call (.c (.fn (.func 49) [] [])) [.t 32, .t 33, .c (.int .i64 1)], [5, 6, 3], none⟩,
        ⟨some 35, .fa false 1 2 (.t 1), [], none⟩,
        ⟨some 36, .ld false 1 (.t 35), [8], none⟩,
        ⟨some 37, .mksl true 1 (.int .i64 0) 8 (.c (.int .i64 8)) (.c (.int .i64 8)), [], none⟩,
        ⟨some 38, .call (.c (.fn (.func 49) [] [])) [.t 36, .t 37, .c (.int .i64 1)], [9, 10, 7], none⟩,
        ⟨some 39, .bsl false 1 (.agg [.lit (.slice none 0 0)]) 3 [(0, .t 30), (1, .t 34), (2, .t 38)], [3, 7, 11], none⟩,
        ⟨some 40, .build [.lit (.slice none 0 0)] [(0, 1, .t 39)], [12], none⟩,
        ⟨some 5, .new (.agg [.lit (.slice none 0 0)]), [], none⟩,
        ⟨none, .st 1 (.t 5) (.t 40), [14, 13, 11, 0, 1, 2, 3, 4, 5, 6, 7, 8, 9, 10, 12], none⟩])
     (.seq (.live [2, 3, 4, 5, 58, 59, 62, 63]) (.seq (.reg [⟨some 42, .mv (.t 2), [], none⟩,
         ⟨some 43, .ld true 1 (.t 4), [], none⟩,
         ⟨some 44, .ld true 1 (.t 5), [], none⟩,
         ⟨some 45, .call (.c (.fn (.func 16) [] [])) [.t 42, .t 43, .t 44], [], none⟩,
         ⟨some 41, .mv (.t 45), [], none⟩,
         ⟨some 46, .ext (.t 41) 0, [], none⟩,
         ⟨some 47, .ext (.t 41) 1, [], none⟩,
         ⟨some 6, .new (.agg [.lit (.slice none 0 0)]), [], none⟩,
         ⟨none, .st 1 (.t 6) (.t 46), [], none⟩,
         ⟨some 7, .mv (.t 47), [], none⟩])
      (.seq (.live [2, 3, 4, 5, 7, 58, 59, 62, 63]) (.seq (.reg [⟨some 49, .mv (.t 2), [], none⟩,
          ⟨some 50, .ld true 1 (.t 5), [], none⟩,
          ⟨some 51, .ld true 1 (.t 4), [], none⟩,
          ⟨some 52, .call (.c (.fn (.func 28) [] [])) [.t 49, .t 50, .t 51], [], none⟩,
          ⟨some 48, .mv (.t 52), [], none⟩,
          ⟨some 53, .ext (.t 48) 0, [], none⟩,
          ⟨some 54, .ext (.t 48) 1, [], none⟩,
          ⟨some 8, .new (.agg [.lit (.slice none 0 0)]), [], none⟩,
          ⟨none, .st 1 (.t 8) (.t 53), [], none⟩,
          ⟨some 9, .mv (.t 54), [], none⟩])
       (.seq (.live [3, 7, 9, 58, 59, 62, 63]) (.seq (.reg [⟨some 55, .mv (.t 3), [], none⟩,
           ⟨some 56, .bin 0 .eql (.t 55) (.c (.int .i64 0)), [], none⟩,
           ⟨some 57, .mv (.t 56), [], none⟩,
           ⟨some 58, .mv (.t 7), [], some (57, true)⟩,
           ⟨some 59, .bin 0 .eql (.t 58) (.c (.int .i64 10)), [], some (57, true)⟩,
           ⟨some 60, .pick (.t 57) (.t 59) (.c (.bool false)), [], none⟩,
           ⟨some 61, .mv (.t 60), [], none⟩,
           ⟨some 62, .mv (.t 9), [], some (61, true)⟩,
           ⟨some 63, .bin 0 .eql (.t 62) (.c (.int .i64 4)), [], some (61, true)⟩,
           ⟨some 64, .pick (.t 61) (.t 63) (.c (.bool false)), [], none⟩,
           ⟨some 0, .mv (.t 64), [], none⟩])
        .ret))))))))))))))) }

/-- (*arras/eval.Eval).isText -/
def ir61 : IFn :=
 { nt := 29, res := [.t 4],
   body := (.seq (.reg [⟨some 4, .mv (.c (.bool false)), [], none⟩])
 (.seq (.live [0, 1]) (.seq (.seq (.reg [⟨some 7, .mv (.t 1), [], none⟩,
      ⟨some 8, .len (.t 7), [], none⟩,
      ⟨some 9, .mv (.c (.int .i64 0)), [], none⟩])
   (.seq (.live [0, 1, 7, 8, 9]) (.blk 0 (.loop (.seq (.live [0, 1, 7, 8, 9]) (.seq (.reg [⟨some 10, .bin 0 .lss (.t 9) (.t 8), [], none⟩])
      (.seq (.live [0, 1, 7, 8, 9, 10]) (.seq (.cnd (.t 10) .skip
        (.exit 0))
       (.seq (.blk 1 (.seq (.reg [⟨some 11, .ia 1 (.t 7) (.t 9), [], none⟩,
             ⟨some 12, .ld false 1 (.t 11), [], none⟩,
             ⟨some 6, .mv (.t 12), [], none⟩])
          (.seq (.live [0, 1, 6, 7, 8, 9]) (.seq (.reg [⟨some 13, .mv (.t 6), [], none⟩,
              ⟨some 14, .mv (.t 0), [], none⟩,
              ⟨some 15, .nilc (.t 14), [], none⟩,
              ⟨some 16, .fa true 4 0 (.t 15), [], none⟩,
              ⟨some 17, .fa false 1 1 (.t 16), [], none⟩,
              ⟨some 18, .ld false 1 (.t 17), [], none⟩,
              ⟨some 19, .bin 0 .geq (.t 13) (.t 18), [], none⟩])
           (.seq (.live [0, 1, 7, 8, 9, 19]) (.cnd (.t 19) (.seq (.reg [⟨some 4, .mv (.c (.bool false)), [], none⟩])
             .ret)
            .skip))))))
        (.seq (.live [0, 1, 7, 8, 9]) (.reg [⟨some 20, .bin 0 .add (.t 9) (.c (.int .i64 1)), [], none⟩,
           ⟨some 9, .mv (.t 20), [], none⟩])))))))))))
  (.seq (.live [0, 1]) (.seq (.reg [⟨some 21, .mv (.t 1), [], none⟩,
      ⟨some 22, .len (.t 21), [], none⟩,
      ⟨some 23, .mv (.t 0), [], none⟩,
      ⟨some 24, .nilc (.t 23), [], none⟩,
      ⟨some 25, .fa true 4 0 (.t 24), [], none⟩,
      ⟨some 26, .fa false 1 0 (.t 25), [], none⟩,
      ⟨some 27, .ld false 1 (.t 26), [], none⟩,
      ⟨some 28, .bin 0 .eql (.t 22) (.t 27), [], none⟩,
      ⟨some 4, .mv (.t 28), [], none⟩])
   .ret))))) }

/-- arras/param.Modulus -/
def ir132 : IFn :=
 { nt := 26, res := [.t 4, .t 5],
   body := (.seq (.reg [⟨some 2, .box 4 (.t 0), [], none⟩,
    ⟨some 4, .mv (.c (.lit (.slice none 0 0))), [], none⟩,
    ⟨some 5, .mv (.c (.int .i64 0)), [], none⟩])
 (.seq (.live [1, 2, 14, 15, 16, 17, 18]) (.seq (.blk 0 (.seq (.reg [⟨some 7, .ld true 4 (.t 2), [], none⟩,
       ⟨some 8, .call (.c (.fn (.func 120) [] [])) [.t 7], [], none⟩,
       ⟨some 9, .bin 0 .neq (.t 8) (.c (.int .i64 0)), [], none⟩,
       ⟨some 6, .mv (.t 9), [], none⟩])
    (.seq (.live [1, 2, 6, 14, 15, 16, 17, 18]) (.cnd (.t 6) (.seq (.reg [⟨some 4, .mv (.c (.lit (.slice none 0 0))), [], none⟩,
         ⟨some 5, .mv (.c (.int .i64 8)), [], none⟩])
      .ret)
     (.seq (.reg [⟨some 11, .mv (.t 1), [], none⟩,
         ⟨some 12, .bin 0 .lss (.t 11) (.c (.int .i64 0)), [], none⟩,
         ⟨some 13, .mv (.t 12), [], none⟩,
         ⟨some 14, .mv (.t 1), [], some (13, false)⟩,
         ⟨some 15, .fa false 1 2 (.t 2), [], some (13, false)⟩,
         ⟨some 16, .ld false 1 (.t 15), [], some (13, false)⟩,
         ⟨some 17, .len (.t 16), [], some (13, false)⟩,
         ⟨some 18, .bin 0 .geq (.t 14) (.t 17), [], some (13, false)⟩,
         ⟨some 19, .pick (.t 13) (.c (.bool true)) (.t 18), [], none⟩,
         ⟨some 10, .mv (.t 19), [], none⟩])
      (.seq (.live [1, 2, 10]) (.cnd (.t 10) (.seq (.reg [⟨some 4, .mv (.c (.lit (.slice none 0 0))), [], none⟩,
           ⟨some 5, .mv (.c (.int .i64 10)), [], none⟩])
        .ret)
       .skip)))))))
  (.seq (.live [1, 2]) (.seq (.reg [⟨some 20, .fa false 1 2 (.t 2), [], none⟩,
      ⟨some 21, .ld false 1 (.t 20), [], none⟩,
      ⟨some 22, .mv (.t 1), [], none⟩,
      ⟨some 23, .bin 0 .add (.t 22) (.c (.int .i64 1)), [], none⟩,
      ⟨some 24, .slc 1 (.t 21) none (some (.t 23)) none, [], none⟩,
      ⟨some 25, .call (.c (.fn (.func 123) [] [])) [.t 24], [], none⟩,
      ⟨some 4, .mv (.t 25), [], none⟩,
      ⟨some 5, .mv (.c (.int .i64 0)), [], none⟩])
   .ret))))) }

/-- arras/param.Step -/
def ir62 : IFn :=
 { nt := 35, res := [.t 4, .t 5, .t 6],
   body := (.seq (.reg [⟨some 2, .box 4 (.t 0), [], none⟩,
    ⟨some 4, .mv (.c (.lit (.slice none 0 0))), [], none⟩,
    ⟨some 5, .mv (.c (.int .u64 0)), [], none⟩,
    ⟨some 6, .mv (.c (.int .i64 0)), [], none⟩])
 (.seq (.live [1, 2]) (.seq (.reg [⟨some 13, .ld true 4 (.t 2), [], none⟩,
     ⟨some 14, .mv (.t 1), [], none⟩,
     ⟨some 15, .call (.c (.fn (.func 132) [] [])) [.t 13, .t 14], [], none⟩,
     ⟨some 12, .mv (.t 15), [], none⟩,
     ⟨some 16, .ext (.t 12) 0, [], none⟩,
     ⟨some 17, .ext (.t 12) 1, [], none⟩,
     ⟨some 7, .mv (.t 16), [], none⟩,
     ⟨some 8, .mv (.t 17), [], none⟩])
  (.seq (.live [2, 7, 8]) (.seq (.seq (.reg [⟨some 18, .mv (.t 8), [], none⟩,
       ⟨some 19, .bin 0 .neq (.t 18) (.c (.int .i64 0)), [], none⟩])
    (.seq (.live [2, 7, 8, 19]) (.cnd (.t 19) (.seq (.reg [⟨some 20, .mv (.t 8), [], none⟩,
         ⟨some 4, .mv (.c (.lit (.slice none 0 0))), [], none⟩,
         ⟨some 5, .mv (.c (.int .u64 0)), [], none⟩,
         ⟨some 6, .mv (.t 20), [], none⟩])
      .ret)
     .skip)))
   (.seq (.live [2, 7]) (.seq (.reg [⟨some 22, .mv (.t 7), [], none⟩,
       ⟨some 23, .fa false 1 1 (.t 2), [], none⟩,
       ⟨some 24, .ld false 1 (.t 23), [], none⟩,
       ⟨some 25, .call (.c (.fn (.func 65) [] [])) [.t 24], [], none⟩,
       ⟨some 26, .call (.c (.fn (.func 133) [] [])) [.t 22, .t 25], [], none⟩,
       ⟨some 21, .mv (.t 26), [], none⟩,
       ⟨some 27, .ext (.t 21) 0, [], none⟩,
       ⟨some 28, .ext (.t 21) 1, [], none⟩,
       ⟨some 29, .ext (.t 21) 2, [], none⟩,
       ⟨some 9, .mv (.t 27), [], none⟩,
       ⟨some 10, .mv (.t 28), [], none⟩,
       ⟨some 11, .mv (.t 29), [], none⟩])
    (.seq (.live [2, 9, 10]) (.seq (.reg [⟨some 30, .mv (.t 9), [], none⟩,
        ⟨some 31, .mv (.t 10), [], none⟩,
        ⟨some 32, .fa false 1 1 (.t 2), [], none⟩,
        ⟨some 33, .ld false 1 (.t 32), [], none⟩,
        ⟨some 34, .call (.c (.fn (.func 134) [] [])) [.t 31, .t 33], [], none⟩,
        ⟨some 4, .mv (.t 30), [], none⟩,
        ⟨some 5, .mv (.t 34), [], none⟩,
        ⟨some 6, .mv (.c (.int .i64 0)), [], none⟩])
     .ret))))))))) }

/-- arras/word.Center -/
def ir135 : IFn :=
 { nt := 25, res := [.t 4],
   body := (.seq (.reg [⟨some 4, .mv (.c (.int .i64 0)), [], none⟩])
 (.seq (.live [0, 1, 8, 9]) (.seq (.seq (.reg [⟨some 5, .mv (.t 1), [], none⟩,
      ⟨some 6, .bin 0 .eql (.t 5) (.c (.int .u64 0)), [], none⟩,
      ⟨some 7, .mv (.t 6), [], none⟩,
      ⟨some 8, .mv (.t 1), [], some (7, false)⟩,
      ⟨some 9, .bin 0 .gtr (.t 8) (.c (.int .u64 4611686018427387904)), [], some (7, false)⟩,
      ⟨some 10, .pick (.t 7) (.c (.bool true)) (.t 9), [], none⟩])
   (.seq (.live [0, 1, 10]) (.cnd (.t 10) (.seq (.reg [⟨some 4, .mv (.c (.int .i64 0)), [], none⟩])
     .ret)
    .skip)))
  (.seq (.live [0, 1]) (.seq (.seq (.reg [⟨some 11, .mv (.t 0), [], none⟩,
       ⟨some 12, .mv (.t 1), [], none⟩,
       ⟨some 13, .bin 0 .rem (.t 11) (.t 12), [], none⟩,
       ⟨some 0, .mv (.t 13), [], none⟩])
    (.seq (.live [0, 1]) (.seq (.reg [⟨some 14, .mv (.t 0), [], none⟩,
        ⟨some 15, .mv (.t 1), [], none⟩,
        ⟨some 16, .bin 0 .shr (.t 15) (.c (.int .u64 1)), [], none⟩,
        ⟨some 17, .bin 0 .gtr (.t 14) (.t 16), [], none⟩])
     (.seq (.live [0, 1, 17]) (.cnd (.t 17) (.seq (.reg [⟨some 18, .mv (.t 0), [], none⟩,
          ⟨some 19, .conv .i64 (.t 18), [], none⟩,
          ⟨some 20, .mv (.t 1), [], none⟩,
          ⟨some 21, .conv .i64 (.t 20), [], none⟩,
          ⟨some 22, .bin 0 .sub (.t 19) (.t 21), [], none⟩,
          ⟨some 4, .mv (.t 22), [], none⟩])
       .ret)
      .skip)))))
   (.seq (.live [0]) (.seq (.reg [⟨some 23, .mv (.t 0), [], none⟩,
       ⟨some 24, .conv .i64 (.t 23), [], none⟩,
       ⟨some 4, .mv (.t 24), [], none⟩])
    .ret))))))) }

/-- (*arras/eval.Eval).centered -/
def ir63 : IFn :=
 { nt := 30, res := [.t 4],
   body := (.seq (.reg [⟨some 4, .mv (.c (.lit (.slice none 0 0))), [], none⟩])
 (.seq (.live [0, 1]) (.seq (.reg [⟨some 8, .mv (.t 1), [], none⟩,
     ⟨some 9, .len (.t 8), [], none⟩,
     ⟨some 10, .mksl true 1 (.int .i64 0) 8 (.t 9) (.t 9), [], none⟩,
     ⟨some 5, .mv (.t 10), [], none⟩])
  (.seq (.live [0, 1, 5]) (.seq (.seq (.reg [⟨some 11, .mv (.t 1), [], none⟩,
       ⟨some 12, .len (.t 11), [], none⟩,
       ⟨some 13, .mv (.c (.int .i64 0)), [], none⟩])
    (.seq (.live [0, 5, 11, 12, 13]) (.blk 0 (.loop (.seq (.live [0, 5, 11, 12, 13]) (.seq (.reg [⟨some 14, .bin 0 .lss (.t 13) (.t 12), [], none⟩])
       (.seq (.live [0, 5, 11, 12, 13, 14]) (.seq (.cnd (.t 14) .skip
         (.exit 0))
        (.seq (.blk 1 (.seq (.reg [⟨some 15, .mv (.t 13), [], none⟩,
              ⟨some 16, .ia 1 (.t 11) (.t 13), [], none⟩,
              ⟨some 17, .ld false 1 (.t 16), [], none⟩,
              ⟨some 6, .mv (.t 15), [], none⟩,
              ⟨some 7, .mv (.t 17), [], none⟩])
           (.seq (.live [0, 5, 6, 7, 11, 12, 13]) (.reg [⟨some 18, .mv (.t 5), [], none⟩,
              ⟨some 19, .mv (.t 6), [], none⟩,
              ⟨some 20, .mv (.t 7), [], none⟩,
              ⟨some 21, .mv (.t 0), [], none⟩,
              ⟨some 22, .nilc (.t 21), [], none⟩,
              ⟨some 23, .fa true 4 0 (.t 22), [], none⟩,
              ⟨some 24, .fa false 1 1 (.t 23), [], none⟩,
              ⟨some 25, .ld false 1 (.t 24), [], none⟩,
              ⟨some 26, .call (.c (.fn (.func 135) [] [])) [.t 20, .t 25], [], none⟩,
              ⟨some 27, .ia 1 (.t 18) (.t 19), [], none⟩,
              ⟨none, .st 1 (.t 27) (.t 26), [], none⟩]))))
         (.seq (.live [0, 5, 11, 12, 13]) (.reg [⟨some 28, .bin 0 .add (.t 13) (.c (.int .i64 1)), [], none⟩,
            ⟨some 13, .mv (.t 28), [], none⟩])))))))))))
   (.seq (.live [5]) (.seq (.reg [⟨some 29, .mv (.t 5), [], none⟩,
       ⟨some 4, .mv (.t 29), [], none⟩])
    .ret))))))) }

/-- (*arras/eval.Eval).AddText -/
def ir17 : IFn :=
 { nt := 139, res := [.cell 6 true 1, .t 7],
   body := (.seq (.reg [⟨some 4, .box 1 (.t 1), [], none⟩,
    ⟨some 6, .new (.agg [.lit (.slice none 0 0)]), [], none⟩,
    ⟨some 7, .mv (.c (.int .i64 0)), [], none⟩])
 (.seq (.live [0, 2, 4, 6]) (.seq (.reg [⟨some 22, .mv (.t 0), [], none⟩,
     ⟨some 23, .ld true 1 (.t 4), [], none⟩,
     ⟨some 24, .bsl false 1 (.agg [.lit (.slice none 0 0)]) 1 [(0, .t 23)], [], none⟩,
     ⟨some 25, .call (.c (.fn (.func 58) [] [])) [.t 22, .t 24], [], none⟩,
     ⟨some 21, .mv (.t 25), [], none⟩,
     ⟨some 26, .ext (.t 21) 0, [], none⟩,
     ⟨some 27, .ext (.t 21) 1, [], none⟩,
     ⟨some 8, .mv (.t 26), [], none⟩,
     ⟨some 9, .mv (.t 27), [], none⟩])
  (.seq (.live [0, 2, 4, 6, 8, 9]) (.seq (.blk 0 (.seq (.reg [⟨some 29, .mv (.t 9), [], none⟩,
        ⟨some 30, .bin 0 .neq (.t 29) (.c (.int .i64 0)), [], none⟩,
        ⟨some 28, .mv (.t 30), [], none⟩])
     (.seq (.live [0, 2, 4, 6, 8, 9, 28]) (.cnd (.t 28) (.seq (.reg [⟨some 31, .build [.lit (.slice none 0 0)] [], [], none⟩,
          ⟨some 32, .mv (.t 9), [], none⟩,
          ⟨none, .st 1 (.t 6) (.t 31), [], none⟩,
          ⟨some 7, .mv (.t 32), [], none⟩])
       .ret)
      (.seq (.reg [⟨some 34, .mv (.t 0), [], none⟩,
          ⟨some 35, .mv (.t 2), [], none⟩,
          ⟨some 36, .call (.c (.fn (.func 61) [] [])) [.t 34, .t 35], [], none⟩,
          ⟨some 37, .un .not (.t 36), [], none⟩,
          ⟨some 33, .mv (.t 37), [], none⟩])
       (.seq (.live [0, 2, 4, 6, 8, 33]) (.cnd (.t 33) (.seq (.reg [⟨some 38, .build [.lit (.slice none 0 0)] [], [], none⟩,
            ⟨none, .st 1 (.t 6) (.t 38), [], none⟩,
            ⟨some 7, .mv (.c (.int .i64 3)), [], none⟩])
         .ret)
        .skip)))))))
   (.seq (.live [0, 2, 4, 6, 8]) (.seq (.drw [⟨some 40, .mv (.t 0), [], none⟩,
       ⟨some 41, .nilc (.t 40), [0], none⟩,
       ⟨some 42, .fa true 4 0 (.t 41), [1], none⟩,
       ⟨some 43, .ld true 4 (.t 42), [2], none⟩,
       ⟨some 44, .mv (.t 8), [], none⟩,
       ⟨some 45, .ia 1 (.t 44) (.c (.int .i64 0)), [4], none⟩,
       ⟨some 46, .ld false 1 (.t 45), [5], none⟩,
       ⟨some 47, .call (.c (.fn (.func 62) [] [])) [.t 43, .t 46], [3, 6], none⟩,
       ⟨some 39, .mv (.t 47), [7], none⟩,
       ⟨some 48, .ext (.t 39) 0, [8], none⟩,
       ⟨some 49, .ext (.t 39) 1, [8], none⟩,
       ⟨some 50, .ext (.t 39) 2, [8], none⟩,
       ⟨some 10, .mv (.t 48), [9, 7, 0, 1, 2, 3, 4, 5, 6, 8], none⟩,
       ⟨some 11, .mv (.t 49), [10, 12, 0, 1, 2, 3, 4, 5, 6, 7, 8, 9], none⟩,
       ⟨some 12, .mv (.t 50), [11, 13, 0, 1, 2, 3, 4, 5, 6, 7, 8, 9, 10, 12], none⟩])
    (.seq (.live [0, 2, 4, 6, 8, 10]) (.seq (.reg [⟨some 51, .mv (.t 0), [], none⟩,
        ⟨some 52, .nilc (.t 51), [], none⟩,
        ⟨some 53, .fa true 4 0 (.t 52), [], none⟩,
        ⟨some 54, .fa false 1 0 (.t 53), [], none⟩,
        ⟨some 55, .ld false 1 (.t 54), [], none⟩,
        ⟨some 56, .mksl false 2 (.agg [.bool false, .lit (.slice none 0 0)]) 32 (.t 55) (.t 55), [], none⟩,
        ⟨some 13, .mv (.t 56), [], none⟩])
     (.seq (.live [0, 2, 4, 6, 8, 10, 13]) (.seq (.seq (.reg [⟨some 57, .mv (.t 0), [], none⟩,
          ⟨some 58, .mv (.t 2), [], none⟩,
          ⟨some 59, .call (.c (.fn (.func 63) [] [])) [.t 57, .t 58], [], none⟩,
          ⟨some 60, .len (.t 59), [], none⟩,
          ⟨some 61, .mv (.c (.int .i64 0)), [], none⟩])
       (.seq (.live [0, 4, 6, 8, 10, 13, 59, 60, 61]) (.blk 1 (.loop (.seq (.live [0, 4, 6, 8, 10, 13, 59, 60, 61]) (.seq (.reg [⟨some 62, .bin 0 .lss (.t 61) (.t 60), [], none⟩])
          (.seq (.live [0, 4, 6, 8, 10, 13, 59, 60, 61, 62]) (.seq (.cnd (.t 62) .skip
            (.exit 1))
           (.seq (.blk 2 (.seq (.reg [⟨some 63, .mv (.t 61), [], none⟩,
                 ⟨some 64, .ia 1 (.t 59) (.t 61), [], none⟩,
                 ⟨some 65, .ld false 1 (.t 64), [], none⟩,
                 ⟨some 14, .mv (.t 63), [], none⟩,
                 ⟨some 15, .mv (.t 65), [], none⟩])
              (.seq (.live [0, 4, 6, 8, 10, 13, 14, 15, 59, 60, 61]) (.reg [⟨some 66, .mv (.t 13), [], none⟩,
                 ⟨some 67, .mv (.t 14), [], none⟩,
                 ⟨some 68, .mv (.t 15), [], none⟩,
                 ⟨some 69, .bin 0 .lss (.t 68) (.c (.int .i64 0)), [], none⟩,
                 ⟨some 70, .mv (.t 15), [], none⟩,
                 ⟨some 71, .mv (.t 15), [], none⟩,
                 ⟨some 72, .un .neg (.t 71), [], none⟩,
                 ⟨some 73, .mx [.t 70, .t 72], [], none⟩,
                 ⟨some 74, .conv .u64 (.t 73), [], none⟩,
                 ⟨some 75, .call (.c (.fn (.func 65) [] [])) [.t 74], [], none⟩,
                 ⟨some 76, .build [.bool false, .lit (.slice none 0 0)] [(0, 1, .t 69), (1, 1, .t 75)], [], none⟩,
                 ⟨some 77, .mv (.t 10), [], none⟩,
                 ⟨some 78, .build [.bool false, .lit (.slice none 0 0)] [(1, 1, .t 77)], [], none⟩,
                 ⟨some 79, .call (.c (.fn (.func 64) [] [])) [.t 76, .t 78], [], none⟩,
                 ⟨some 80, .ia 2 (.t 66) (.t 67), [], none⟩,
                 ⟨none, .st 2 (.t 80) (.t 79), [], none⟩]))))
            (.seq (.live [0, 4, 6, 8, 10, 13, 59, 60, 61]) (.reg [⟨some 81, .bin 0 .add (.t 61) (.c (.int .i64 1)), [], none⟩,
               ⟨some 61, .mv (.t 81), [], none⟩])))))))))))
      (.seq (.live [0, 4, 6, 8, 13]) (.seq (.drw [⟨some 83, .mv (.t 13), [], none⟩,
          ⟨some 84, .mv (.t 0), [], none⟩,
          ⟨some 85, .nilc (.t 84), [1], none⟩,
          ⟨some 86, .fa true 4 0 (.t 85), [2], none⟩,
          ⟨some 87, .fa false 1 2 (.t 86), [3], none⟩,
          ⟨some 88, .ld false 1 (.t 87), [4], none⟩,
          ⟨some 89, .mv (.t 8), [], none⟩,
          ⟨some 90, .ia 1 (.t 89) (.c (.int .i64 0)), [6], none⟩,
          ⟨some 91, .ld false 1 (.t 90), [7], none⟩,
          ⟨some 92, .bin 0 .add (.t 91) (.c (.int .i64 1)), [8], none⟩,
          ⟨some 93, .slc 1 (.t 88) none (some (.t 92)) none, [5, 9], none⟩,
          ⟨some 94, .call (.c (.fn (.func 66) [] [])) [.t 83, .t 93], [0, 10], none⟩,
          ⟨some 82, .mv (.t 94), [11], none⟩,
          ⟨some 95, .ext (.t 82) 0, [12], none⟩,
          ⟨some 96, .ext (.t 82) 1, [12], none⟩,
          ⟨some 16, .new (.agg [.lit (.slice none 0 0)]), [], none⟩,
          ⟨none, .st 1 (.t 16) (.t 95), [15, 13, 11, 0, 1, 2, 3, 4, 5, 6, 7, 8, 9, 10, 12], none⟩,
          ⟨some 17, .mv (.t 96), [14, 16, 0, 1, 2, 3, 4, 5, 6, 7, 8, 9, 10, 11, 12, 13, 15], none⟩])
       (.seq (.live [0, 4, 6, 16]) (.seq (.reg [⟨some 97, .mv (.t 0), [], none⟩,
           ⟨some 98, .fa false 1 0 (.t 4), [], none⟩,
           ⟨some 99, .ld false 1 (.t 98), [], none⟩,
           ⟨some 100, .ia 1 (.t 99) (.c (.int .i64 0)), [], none⟩,
           ⟨some 101, .ld true 1 (.t 100), [], none⟩,
           ⟨some 102, .call (.c (.fn (.func 59) [] [])) [.t 97, .t 101], [], none⟩,
           ⟨some 103, .bsl false 1 (.agg [.lit (.slice none 0 0)]) 1 [(0, .t 102)], [], none⟩,
           ⟨some 104, .build [.lit (.slice none 0 0)] [(0, 1, .t 103)], [], none⟩,
           ⟨some 18, .new (.agg [.lit (.slice none 0 0)]), [], none⟩,
           ⟨none, .st 1 (.t 18) (.t 104), [], none⟩])
        (.seq (.live [0, 4, 6, 16, 18]) (.seq (.drw [⟨some 106, .fa false 1 0 (.t 18), [], none⟩,
            ⟨some 107, .ld false 1 (.t 106), [0], none⟩,
            ⟨some 108, .mv (.t 0), [], none⟩,
            ⟨some 109, .nilc (.t 108), [2], none⟩,
            ⟨some 110, .fa false 1 4 (.t 109), [3], none⟩,
            ⟨some 111, .ld false 1 (.t 110), [4], none⟩,
            ⟨some 112, .fa false 1 0 (.t 4), [], none⟩,
            ⟨some 113, .ld false 1 (.t 112), [6], none⟩,
            ⟨some 114, .ia 1 (.t 113) (.c (.int .i64 0)), [7], none⟩,
            ⟨some 115, .ld true 1 (.t 114), [8], none⟩,
            ⟨some 116, .ld true 1 (.t 16), [], none⟩,
            ⟨some 117, .call (.c (.fn (.func 60) [] [])) [.t 111, .t 115, .t 116], [5, 9, 10], none⟩,
            ⟨some 105, .mv (.t 117), [11], none⟩,
            ⟨some 118, .ext (.t 105) 0, [12], none⟩,
            ⟨some 119, .ext (.t 105) 1, [12], none⟩,
            ⟨some 120, .ia 1 (.t 107) (.c (.int .i64 0)), [1, 0, 2, 3, 4, 5, 6, 7, 8, 9, 10, 11, 12, 13], none⟩,
            ⟨none, .st 1 (.t 120) (.t 118), [15, 13, 11, 0, 1, 2, 3, 4, 5, 6, 7, 8, 9, 10, 12], none⟩])
         (.seq (.live [0, 4, 6, 18]) (.seq (.seq (.reg [⟨some 121, .fa false 1 0 (.t 4), [], none⟩,
              ⟨some 122, .ld false 1 (.t 121), [], none⟩,
              ⟨some 123, .slc 1 (.t 122) (some (.c (.int .i64 1))) none none, [], none⟩,
              ⟨some 124, .len (.t 123), [], none⟩,
              ⟨some 125, .mv (.c (.int .i64 0)), [], none⟩])
           (.seq (.live [0, 6, 18, 123, 124, 125]) (.blk 3 (.loop (.seq (.live [0, 6, 18, 123, 124, 125]) (.seq (.reg [⟨some 126, .bin 0 .lss (.t 125) (.t 124), [], none⟩])
              (.seq (.live [0, 6, 18, 123, 124, 125, 126]) (.seq (.cnd (.t 126) .skip
                (.exit 3))
               (.seq (.blk 4 (.seq (.reg [⟨some 127, .ia 1 (.t 123) (.t 125), [], none⟩,
                     ⟨some 128, .ld true 1 (.t 127), [], none⟩,
                     ⟨some 20, .new (.agg [.lit (.slice none 0 0)]), [], none⟩,
                     ⟨none, .st 1 (.t 20) (.t 128), [], none⟩])
                  (.seq (.live [0, 6, 18, 20, 123, 124, 125]) (.drw [⟨some 129, .fa false 1 0 (.t 18), [], none⟩,
                     ⟨some 130, .ld false 1 (.t 129), [0], none⟩,
                     ⟨some 131, .mv (.t 0), [], none⟩,
                     ⟨some 132, .ld true 1 (.t 20), [], none⟩,
                     ⟨some 133, .call (.c (.fn (.func 59) [] [])) [.t 131, .t 132], [2, 3], none⟩,
                     ⟨some 134, .bsl false 1 (.agg [.lit (.slice none 0 0)]) 1 [(0, .t 133)], [4], none⟩,
                     ⟨some 135, .app false 1 24 (.t 130) (.t 134), [1, 5, 4], none⟩,
                     ⟨some 136, .fa false 1 0 (.t 18), [0, 1, 2, 3, 4, 5, 6], none⟩,
                     ⟨none, .st 1 (.t 136) (.t 135), [7, 6, 0, 1, 2, 3, 4, 5], none⟩]))))
                (.seq (.live [0, 6, 18, 123, 124, 125]) (.reg [⟨some 137, .bin 0 .add (.t 125) (.c (.int .i64 1)), [], none⟩,
                   ⟨some 125, .mv (.t 137), [], none⟩])))))))))))
          (.seq (.live [6, 18]) (.seq (.reg [⟨some 138, .ld true 1 (.t 18), [], none⟩,
              ⟨none, .st 1 (.t 6) (.t 138), [], none⟩,
              ⟨some 7, .mv (.c (.int .i64 0)), [], none⟩])
           .ret))))))))))))))))))))) }

/-- arras/word.Lift -/
def ir169 : IFn :=
 { nt := 20, res := [.t 4],
   body := (.seq (.reg [⟨some 4, .mv (.c (.int .u64 0)), [], none⟩])
 (.seq (.live [0, 1]) (.seq (.blk 0 (.seq (.reg [⟨some 6, .mv (.t 1), [], none⟩,
       ⟨some 7, .bin 0 .eql (.t 6) (.c (.int .u64 0)), [], none⟩,
       ⟨some 5, .mv (.t 7), [], none⟩])
    (.seq (.live [0, 1, 5]) (.cnd (.t 5) (.seq (.reg [⟨some 4, .mv (.c (.int .u64 0)), [], none⟩])
      .ret)
     (.seq (.reg [⟨some 9, .mv (.t 0), [], none⟩,
         ⟨some 10, .bin 0 .geq (.t 9) (.c (.int .i64 0)), [], none⟩,
         ⟨some 8, .mv (.t 10), [], none⟩])
      (.seq (.live [0, 1, 8]) (.cnd (.t 8) (.seq (.reg [⟨some 11, .mv (.t 0), [], none⟩,
           ⟨some 12, .conv .u64 (.t 11), [], none⟩,
           ⟨some 13, .mv (.t 1), [], none⟩,
           ⟨some 14, .bin 0 .rem (.t 12) (.t 13), [], none⟩,
           ⟨some 4, .mv (.t 14), [], none⟩])
        .ret)
       .skip)))))))
  (.seq (.live [0, 1]) (.seq (.reg [⟨some 15, .mv (.t 0), [], none⟩,
      ⟨some 16, .conv .u64 (.t 15), [], none⟩,
      ⟨some 17, .un .neg (.t 16), [], none⟩,
      ⟨some 18, .mv (.t 1), [], none⟩,
      ⟨some 19, .call (.c (.fn (.func 177) [] [])) [.c (.int .u64 0), .t 17, .t 18], [], none⟩,
      ⟨some 4, .mv (.t 19), [], none⟩])
   .ret))))) }

/-- (*arras/ring.Ring).Lift -/
def ir94 : IFn :=
 { nt := 80, res := [.cell 6 true 1, .t 7],
   body := (.seq (.reg [⟨some 6, .new (.agg [.lit (.slice none 0 0)]), [], none⟩,
    ⟨some 7, .mv (.c (.int .i64 0)), [], none⟩])
 (.seq (.live [0, 1, 2, 6, 22, 23, 24, 25, 26, 27, 28]) (.seq (.blk 0 (.seq (.reg [⟨some 15, .mv (.t 0), [], none⟩,
       ⟨some 16, .bin 2 .eql (.t 15) (.c (.lit (.pointer none))), [], none⟩,
       ⟨some 14, .mv (.t 16), [], none⟩])
    (.seq (.live [0, 1, 2, 6, 14, 22, 23, 24, 25, 26, 27, 28]) (.cnd (.t 14) (.seq (.reg [⟨some 17, .build [.lit (.slice none 0 0)] [], [], none⟩,
         ⟨none, .st 1 (.t 6) (.t 17), [], none⟩,
         ⟨some 7, .mv (.c (.int .i64 1)), [], none⟩])
      .ret)
     (.seq (.reg [⟨some 19, .mv (.t 2), [], none⟩,
         ⟨some 20, .bin 0 .lss (.t 19) (.c (.int .i64 0)), [], none⟩,
         ⟨some 21, .mv (.t 20), [], none⟩,
         ⟨some 22, .mv (.t 2), [], some (21, false)⟩,
         ⟨some 23, .mv (.t 0), [], some (21, false)⟩,
         ⟨some 24, .nilc (.t 23), [], some (21, false)⟩,
         ⟨some 25, .fa false 1 1 (.t 24), [], some (21, false)⟩,
         ⟨some 26, .ld false 1 (.t 25), [], some (21, false)⟩,
         ⟨some 27, .len (.t 26), [], some (21, false)⟩,
         ⟨some 28, .bin 0 .geq (.t 22) (.t 27), [], some (21, false)⟩,
         ⟨some 29, .pick (.t 21) (.c (.bool true)) (.t 28), [], none⟩,
         ⟨some 18, .mv (.t 29), [], none⟩])
      (.seq (.live [0, 1, 2, 6, 18]) (.cnd (.t 18) (.seq (.reg [⟨some 30, .build [.lit (.slice none 0 0)] [], [], none⟩,
           ⟨none, .st 1 (.t 6) (.t 30), [], none⟩,
           ⟨some 7, .mv (.c (.int .i64 10)), [], none⟩])
        .ret)
       (.seq (.reg [⟨some 32, .mv (.t 1), [], none⟩,
           ⟨some 33, .len (.t 32), [], none⟩,
           ⟨some 34, .mv (.t 0), [], none⟩,
           ⟨some 35, .nilc (.t 34), [], none⟩,
           ⟨some 36, .fa false 1 0 (.t 35), [], none⟩,
           ⟨some 37, .ld false 1 (.t 36), [], none⟩,
           ⟨some 38, .bin 0 .neq (.t 33) (.t 37), [], none⟩,
           ⟨some 31, .mv (.t 38), [], none⟩])
        (.seq (.live [0, 1, 2, 6, 31]) (.cnd (.t 31) (.seq (.reg [⟨some 39, .build [.lit (.slice none 0 0)] [], [], none⟩,
             ⟨none, .st 1 (.t 6) (.t 39), [], none⟩,
             ⟨some 7, .mv (.c (.int .i64 3)), [], none⟩])
          .ret)
         .skip))))))))))
  (.seq (.live [0, 1, 2, 6]) (.seq (.reg [⟨some 40, .build [.lit (.slice none 0 0)] [], [], none⟩,
      ⟨some 8, .new (.agg [.lit (.slice none 0 0)]), [], none⟩,
      ⟨none, .st 1 (.t 8) (.t 40), [], none⟩])
   (.seq (.live [0, 1, 2, 6, 8]) (.seq (.seq (.reg [⟨some 41, .mv (.t 0), [], none⟩,
        ⟨some 42, .nilc (.t 41), [], none⟩,
        ⟨some 43, .fa false 1 1 (.t 42), [], none⟩,
        ⟨some 44, .ld false 1 (.t 43), [], none⟩,
        ⟨some 45, .mv (.t 2), [], none⟩,
        ⟨some 46, .bin 0 .add (.t 45) (.c (.int .i64 1)), [], none⟩,
        ⟨some 47, .slc 1 (.t 44) none (some (.t 46)) none, [], none⟩,
        ⟨some 48, .len (.t 47), [], none⟩,
        ⟨some 49, .mv (.c (.int .i64 0)), [], none⟩])
     (.seq (.live [0, 1, 6, 8, 47, 48, 49]) (.blk 1 (.loop (.seq (.live [0, 1, 6, 8, 47, 48, 49]) (.seq (.reg [⟨some 50, .bin 0 .lss (.t 49) (.t 48), [], none⟩])
        (.seq (.live [0, 1, 6, 8, 47, 48, 49, 50]) (.seq (.cnd (.t 50) .skip
          (.exit 1))
         (.seq (.blk 2 (.seq (.reg [⟨some 51, .ia 1 (.t 47) (.t 49), [], none⟩,
               ⟨some 52, .ld false 1 (.t 51), [], none⟩,
               ⟨some 10, .mv (.t 52), [], none⟩])
            (.seq (.live [0, 1, 6, 8, 10, 47, 48, 49]) (.seq (.reg [⟨some 53, .mv (.t 0), [], none⟩,
                ⟨some 54, .nilc (.t 53), [], none⟩,
                ⟨some 55, .fa false 1 0 (.t 54), [], none⟩,
                ⟨some 56, .ld false 1 (.t 55), [], none⟩,
                ⟨some 57, .mksl true 1 (.int .u64 0) 8 (.t 56) (.t 56), [], none⟩,
                ⟨some 11, .mv (.t 57), [], none⟩])
             (.seq (.live [0, 1, 6, 8, 10, 11, 47, 48, 49]) (.seq (.seq (.reg [⟨some 58, .mv (.t 1), [], none⟩,
                  ⟨some 59, .len (.t 58), [], none⟩,
                  ⟨some 60, .mv (.c (.int .i64 0)), [], none⟩])
               (.seq (.live [0, 1, 6, 8, 10, 11, 47, 48, 49, 58, 59, 60]) (.blk 3 (.loop (.seq (.live [0, 1, 6, 8, 10, 11, 47, 48, 49, 58, 59, 60]) (.seq (.reg [⟨some 61, .bin 0 .lss (.t 60) (.t 59), [], none⟩])
                  (.seq (.live [0, 1, 6, 8, 10, 11, 47, 48, 49, 58, 59, 60, 61]) (.seq (.cnd (.t 61) .skip
                    (.exit 3))
                   (.seq (.blk 4 (.seq (.reg [⟨some 62, .mv (.t 60), [], none⟩,
                         ⟨some 63, .ia 1 (.t 58) (.t 60), [], none⟩,
                         ⟨some 64, .ld false 1 (.t 63), [], none⟩,
                         ⟨some 12, .mv (.t 62), [], none⟩,
                         ⟨some 13, .mv (.t 64), [], none⟩])
                      (.seq (.live [0, 1, 6, 8, 10, 11, 12, 13, 47, 48, 49, 58, 59, 60]) (.reg [⟨some 65, .mv (.t 11), [], none⟩,
                         ⟨some 66, .mv (.t 12), [], none⟩,
                         ⟨some 67, .mv (.t 13), [], none⟩,
                         ⟨some 68, .mv (.t 10), [], none⟩,
                         ⟨some 69, .call (.c (.fn (.func 169) [] [])) [.t 67, .t 68], [], none⟩,
                         ⟨some 70, .ia 1 (.t 65) (.t 66), [], none⟩,
                         ⟨none, .st 1 (.t 70) (.t 69), [], none⟩]))))
                    (.seq (.live [0, 1, 6, 8, 10, 11, 47, 48, 49, 58, 59, 60]) (.reg [⟨some 71, .bin 0 .add (.t 60) (.c (.int .i64 1)), [], none⟩,
                       ⟨some 60, .mv (.t 71), [], none⟩])))))))))))
              (.seq (.live [0, 1, 6, 8, 11, 47, 48, 49]) (.reg [⟨some 72, .fa false 1 0 (.t 8), [], none⟩,
                 ⟨some 73, .ld false 1 (.t 72), [], none⟩,
                 ⟨some 74, .mv (.t 11), [], none⟩,
                 ⟨some 75, .bsl false 1 (.lit (.slice none 0 0)) 1 [(0, .t 74)], [], none⟩,
                 ⟨some 76, .app false 1 24 (.t 73) (.t 75), [], none⟩,
                 ⟨some 77, .fa false 1 0 (.t 8), [], none⟩,
                 ⟨none, .st 1 (.t 77) (.t 76), [], none⟩]))))))))
          (.seq (.live [0, 1, 6, 8, 47, 48, 49]) (.reg [⟨some 78, .bin 0 .add (.t 49) (.c (.int .i64 1)), [], none⟩,
             ⟨some 49, .mv (.t 78), [], none⟩])))))))))))
    (.seq (.live [6, 8]) (.seq (.reg [⟨some 79, .ld true 1 (.t 8), [], none⟩,
        ⟨none, .st 1 (.t 6) (.t 79), [], none⟩,
        ⟨some 7, .mv (.c (.int .i64 0)), [], none⟩])
     .ret))))))))) }

/-- arras/eval.each -/
def ir95 : IFn :=
 { nt := 37, res := [.cell 4 true 1, .t 5],
   body := (.seq (.reg [⟨some 2, .box 1 (.t 0), [], none⟩,
    ⟨some 4, .new (.agg [.lit (.slice none 0 0)]), [], none⟩,
    ⟨some 5, .mv (.c (.int .i64 0)), [], none⟩])
 (.seq (.live [1, 2, 4]) (.seq (.reg [⟨some 11, .build [.lit (.slice none 0 0)] [], [], none⟩,
     ⟨some 6, .new (.agg [.lit (.slice none 0 0)]), [], none⟩,
     ⟨none, .st 1 (.t 6) (.t 11), [], none⟩])
  (.seq (.live [1, 2, 4, 6]) (.seq (.seq (.reg [⟨some 12, .fa false 1 0 (.t 2), [], none⟩,
       ⟨some 13, .ld false 1 (.t 12), [], none⟩,
       ⟨some 14, .len (.t 13), [], none⟩,
       ⟨some 15, .mv (.c (.int .i64 0)), [], none⟩])
    (.seq (.live [1, 4, 6, 13, 14, 15]) (.blk 0 (.loop (.seq (.live [1, 4, 6, 13, 14, 15]) (.seq (.reg [⟨some 16, .bin 0 .lss (.t 15) (.t 14), [], none⟩])
       (.seq (.live [1, 4, 6, 13, 14, 15, 16]) (.seq (.cnd (.t 16) .skip
         (.exit 0))
        (.seq (.blk 1 (.seq (.reg [⟨some 17, .ia 1 (.t 13) (.t 15), [], none⟩,
              ⟨some 18, .ld true 1 (.t 17), [], none⟩,
              ⟨some 8, .new (.agg [.lit (.slice none 0 0)]), [], none⟩,
              ⟨none, .st 1 (.t 8) (.t 18), [], none⟩])
           (.seq (.live [1, 4, 6, 8, 13, 14, 15]) (.seq (.reg [⟨some 20, .mv (.t 1), [], none⟩,
               ⟨some 21, .ld true 1 (.t 8), [], none⟩,
               ⟨some 22, .call (.t 20) [.t 21], [], none⟩,
               ⟨some 19, .mv (.t 22), [], none⟩,
               ⟨some 23, .ext (.t 19) 0, [], none⟩,
               ⟨some 24, .ext (.t 19) 1, [], none⟩,
               ⟨some 9, .new (.agg [.lit (.slice none 0 0)]), [], none⟩,
               ⟨none, .st 1 (.t 9) (.t 23), [], none⟩,
               ⟨some 10, .mv (.t 24), [], none⟩])
            (.seq (.live [1, 4, 6, 9, 10, 13, 14, 15]) (.seq (.seq (.reg [⟨some 25, .mv (.t 10), [], none⟩,
                 ⟨some 26, .bin 0 .neq (.t 25) (.c (.int .i64 0)), [], none⟩])
              (.seq (.live [1, 4, 6, 9, 10, 13, 14, 15, 26]) (.cnd (.t 26) (.seq (.reg [⟨some 27, .build [.lit (.slice none 0 0)] [], [], none⟩,
                   ⟨some 28, .mv (.t 10), [], none⟩,
                   ⟨none, .st 1 (.t 4) (.t 27), [], none⟩,
                   ⟨some 5, .mv (.t 28), [], none⟩])
                .ret)
               .skip)))
             (.seq (.live [1, 4, 6, 9, 13, 14, 15]) (.reg [⟨some 29, .fa false 1 0 (.t 6), [], none⟩,
                ⟨some 30, .ld false 1 (.t 29), [], none⟩,
                ⟨some 31, .ld true 1 (.t 9), [], none⟩,
                ⟨some 32, .bsl false 1 (.agg [.lit (.slice none 0 0)]) 1 [(0, .t 31)], [], none⟩,
                ⟨some 33, .app false 1 24 (.t 30) (.t 32), [], none⟩,
                ⟨some 34, .fa false 1 0 (.t 6), [], none⟩,
                ⟨none, .st 1 (.t 34) (.t 33), [], none⟩]))))))))
         (.seq (.live [1, 4, 6, 13, 14, 15]) (.reg [⟨some 35, .bin 0 .add (.t 15) (.c (.int .i64 1)), [], none⟩,
            ⟨some 15, .mv (.t 35), [], none⟩])))))))))))
   (.seq (.live [4, 6]) (.seq (.reg [⟨some 36, .ld true 1 (.t 6), [], none⟩,
       ⟨none, .st 1 (.t 4) (.t 36), [], none⟩,
       ⟨some 5, .mv (.c (.int .i64 0)), [], none⟩])
    .ret))))))) }

/-- (*arras/eval.Eval).MulText$1 -/
def ir96 : IFn :=
 { nt := 15, res := [.cell 4 true 1, .t 5],
   body := (.seq (.reg [⟨some 3, .box 1 (.t 0), [], none⟩,
    ⟨some 4, .new (.agg [.lit (.slice none 0 0)]), [], none⟩,
    ⟨some 5, .mv (.c (.int .i64 0)), [], none⟩])
 (.seq (.live [1, 2, 3, 4]) (.seq (.drw [⟨some 6, .ld false 1 (.t 1), [], none⟩,
     ⟨some 7, .nilc (.t 6), [0], none⟩,
     ⟨some 8, .fa false 1 4 (.t 7), [1], none⟩,
     ⟨some 9, .ld false 1 (.t 8), [2], none⟩,
     ⟨some 10, .ld true 1 (.t 3), [], none⟩,
     ⟨some 11, .ld true 1 (.t 2), [], none⟩,
     ⟨some 12, .call (.c (.fn (.func 97) [] [])) [.t 9, .t 10, .t 11], [3, 4, 5], none⟩,
     ⟨some 13, .ext (.t 12) 0, [6], none⟩,
     ⟨some 14, .ext (.t 12) 1, [6], none⟩,
     ⟨none, .st 1 (.t 4) (.t 13), [7, 6, 0, 1, 2, 3, 4, 5, 8], none⟩,
     ⟨some 5, .mv (.t 14), [8, 9, 0, 1, 2, 3, 4, 5, 6, 7], none⟩])
  .ret))) }

/-- (*arras/eval.Eval).MulText -/
def ir29 : IFn :=
 { nt := 49, res := [.cell 6 true 1, .t 7],
   body := (.seq (.reg [⟨some 3, .box 1 (.t 0), [], none⟩,
    ⟨some 4, .box 1 (.t 1), [], none⟩,
    ⟨some 6, .new (.agg [.lit (.slice none 0 0)]), [], none⟩,
    ⟨some 7, .mv (.c (.int .i64 0)), [], none⟩])
 (.seq (.live [2, 3, 4, 6]) (.seq (.reg [⟨some 13, .ld false 1 (.t 3), [], none⟩,
     ⟨some 14, .ld true 1 (.t 4), [], none⟩,
     ⟨some 15, .bsl false 1 (.agg [.lit (.slice none 0 0)]) 1 [(0, .t 14)], [], none⟩,
     ⟨some 16, .call (.c (.fn (.func 58) [] [])) [.t 13, .t 15], [], none⟩,
     ⟨some 12, .mv (.t 16), [], none⟩,
     ⟨some 17, .ext (.t 12) 0, [], none⟩,
     ⟨some 18, .ext (.t 12) 1, [], none⟩,
     ⟨some 8, .mv (.t 17), [], none⟩,
     ⟨some 9, .mv (.t 18), [], none⟩])
  (.seq (.live [2, 3, 4, 6, 8, 9]) (.seq (.blk 0 (.seq (.reg [⟨some 20, .mv (.t 9), [], none⟩,
        ⟨some 21, .bin 0 .neq (.t 20) (.c (.int .i64 0)), [], none⟩,
        ⟨some 19, .mv (.t 21), [], none⟩])
     (.seq (.live [2, 3, 4, 6, 8, 9, 19]) (.cnd (.t 19) (.seq (.reg [⟨some 22, .build [.lit (.slice none 0 0)] [], [], none⟩,
          ⟨some 23, .mv (.t 9), [], none⟩,
          ⟨none, .st 1 (.t 6) (.t 22), [], none⟩,
          ⟨some 7, .mv (.t 23), [], none⟩])
       .ret)
      (.seq (.reg [⟨some 25, .ld false 1 (.t 3), [], none⟩,
          ⟨some 26, .mv (.t 2), [], none⟩,
          ⟨some 27, .call (.c (.fn (.func 61) [] [])) [.t 25, .t 26], [], none⟩,
          ⟨some 28, .un .not (.t 27), [], none⟩,
          ⟨some 24, .mv (.t 28), [], none⟩])
       (.seq (.live [2, 3, 4, 6, 8, 24]) (.cnd (.t 24) (.seq (.reg [⟨some 29, .build [.lit (.slice none 0 0)] [], [], none⟩,
            ⟨none, .st 1 (.t 6) (.t 29), [], none⟩,
            ⟨some 7, .mv (.c (.int .i64 3)), [], none⟩])
         .ret)
        .skip)))))))
   (.seq (.live [2, 3, 4, 6, 8]) (.seq (.drw [⟨some 31, .ld false 1 (.t 3), [], none⟩,
       ⟨some 32, .nilc (.t 31), [0], none⟩,
       ⟨some 33, .fa false 1 4 (.t 32), [1], none⟩,
       ⟨some 34, .ld false 1 (.t 33), [2], none⟩,
       ⟨some 35, .ld false 1 (.t 3), [], none⟩,
       ⟨some 36, .mv (.t 2), [], none⟩,
       ⟨some 37, .call (.c (.fn (.func 63) [] [])) [.t 35, .t 36], [4, 5], none⟩,
       ⟨some 38, .mv (.t 8), [], none⟩,
       ⟨some 39, .ia 1 (.t 38) (.c (.int .i64 0)), [7], none⟩,
       ⟨some 40, .ld false 1 (.t 39), [8], none⟩,
       ⟨some 41, .call (.c (.fn (.func 94) [] [])) [.t 34, .t 37, .t 40], [3, 6, 9], none⟩,
       ⟨some 30, .mv (.t 41), [10], none⟩,
       ⟨some 42, .ext (.t 30) 0, [11], none⟩,
       ⟨some 43, .ext (.t 30) 1, [11], none⟩,
       ⟨some 10, .new (.agg [.lit (.slice none 0 0)]), [], none⟩,
       ⟨none, .st 1 (.t 10) (.t 42), [14, 12, 10, 0, 1, 2, 3, 4, 5, 6, 7, 8, 9, 11], none⟩,
       ⟨some 11, .mv (.t 43), [13, 15, 0, 1, 2, 3, 4, 5, 6, 7, 8, 9, 10, 11, 12, 14], none⟩])
    (.seq (.live [3, 4, 6, 10]) (.seq (.reg [⟨some 44, .ld true 1 (.t 4), [], none⟩,
        ⟨some 45, .mkfn (.func 96) [] [.t 3, .t 10], [], none⟩,
        ⟨some 46, .call (.c (.fn (.func 95) [] [])) [.t 44, .t 45], [], none⟩,
        ⟨some 47, .ext (.t 46) 0, [], none⟩,
        ⟨some 48, .ext (.t 46) 1, [], none⟩,
        ⟨none, .st 1 (.t 6) (.t 47), [], none⟩,
        ⟨some 7, .mv (.t 48), [], none⟩])
     .ret))))))))) }

/-- arras/param.Top -/
def ir175 : IFn :=
 { nt := 7, res := [.t 2],
   body := (.seq (.reg [⟨some 1, .box 4 (.t 0), [], none⟩,
    ⟨some 2, .mv (.c (.int .i64 0)), [], none⟩])
 (.seq (.live [1]) (.seq (.reg [⟨some 3, .fa false 1 2 (.t 1), [], none⟩,
     ⟨some 4, .ld false 1 (.t 3), [], none⟩,
     ⟨some 5, .len (.t 4), [], none⟩,
     ⟨some 6, .bin 0 .sub (.t 5) (.c (.int .i64 1)), [], none⟩,
     ⟨some 2, .mv (.t 6), [], none⟩])
  .ret))) }

/-- arras/keys.Right -/
def ir103 : IFn :=
 { nt := 74, res := [.t 4],
   body := (.seq (.reg [⟨some 2, .box 4 (.t 0), [], none⟩,
    ⟨some 3, .box 2 (.t 1), [], none⟩,
    ⟨some 4, .mv (.c (.bool false)), [], none⟩])
 (.seq (.live [2, 3, 17, 18, 19, 20, 21, 22, 23, 26, 27, 28, 29, 30, 31, 32, 67, 68, 69, 70]) (.seq (.seq (.reg [⟨some 13, .ld true 4 (.t 2), [], none⟩,
      ⟨some 14, .call (.c (.fn (.func 120) [] [])) [.t 13], [], none⟩,
      ⟨some 15, .bin 0 .neq (.t 14) (.c (.int .i64 0)), [], none⟩,
      ⟨some 16, .mv (.t 15), [], none⟩,
      ⟨some 17, .fa false 1 1 (.t 3), [], some (16, false)⟩,
      ⟨some 18, .ld false 1 (.t 17), [], some (16, false)⟩,
      ⟨some 19, .len (.t 18), [], some (16, false)⟩,
      ⟨some 20, .fa false 1 2 (.t 2), [], some (16, false)⟩,
      ⟨some 21, .ld false 1 (.t 20), [], some (16, false)⟩,
      ⟨some 22, .len (.t 21), [], some (16, false)⟩,
      ⟨some 23, .bin 0 .neq (.t 19) (.t 22), [], some (16, false)⟩,
      ⟨some 24, .pick (.t 16) (.c (.bool true)) (.t 23), [], none⟩,
      ⟨some 25, .mv (.t 24), [], none⟩,
      ⟨some 26, .fa false 1 0 (.t 3), [], some (25, false)⟩,
      ⟨some 27, .ld false 1 (.t 26), [], some (25, false)⟩,
      ⟨some 28, .len (.t 27), [], some (25, false)⟩,
      ⟨some 29, .fa false 1 2 (.t 2), [], some (25, false)⟩,
      ⟨some 30, .ld false 1 (.t 29), [], some (25, false)⟩,
      ⟨some 31, .len (.t 30), [], some (25, false)⟩,
      ⟨some 32, .bin 0 .neq (.t 28) (.t 31), [], some (25, false)⟩,
      ⟨some 33, .pick (.t 25) (.c (.bool true)) (.t 32), [], none⟩])
   (.seq (.live [2, 3, 33, 67, 68, 69, 70]) (.cnd (.t 33) (.seq (.reg [⟨some 4, .mv (.c (.bool false)), [], none⟩])
     .ret)
    .skip)))
  (.seq (.live [2, 3, 67, 68, 69, 70]) (.seq (.reg [⟨some 35, .fa false 1 0 (.t 2), [], none⟩,
      ⟨some 36, .ld false 1 (.t 35), [], none⟩,
      ⟨some 37, .fa false 1 2 (.t 2), [], none⟩,
      ⟨some 38, .ld false 1 (.t 37), [], none⟩,
      ⟨some 39, .call (.c (.fn (.func 121) [] [])) [.t 36, .t 38], [], none⟩,
      ⟨some 34, .mv (.t 39), [], none⟩,
      ⟨some 40, .ext (.t 34) 0, [], none⟩,
      ⟨some 41, .ext (.t 34) 1, [], none⟩,
      ⟨some 5, .mv (.t 40), [], none⟩,
      ⟨some 6, .mv (.t 41), [], none⟩])
   (.seq (.live [2, 3, 5, 67, 68, 69, 70]) (.seq (.seq (.reg [⟨some 42, .fa false 1 1 (.t 3), [], none⟩,
        ⟨some 43, .ld false 1 (.t 42), [], none⟩,
        ⟨some 44, .fa false 1 0 (.t 3), [], none⟩,
        ⟨some 45, .ld false 1 (.t 44), [], none⟩,
        ⟨some 46, .bsl false 1 (.lit (.slice none 0 0)) 2 [(0, .t 43), (1, .t 45)], [], none⟩,
        ⟨some 47, .len (.t 46), [], none⟩,
        ⟨some 48, .mv (.c (.int .i64 0)), [], none⟩])
     (.seq (.live [2, 5, 46, 47, 48, 67, 68, 69, 70]) (.blk 0 (.loop (.seq (.live [2, 5, 46, 47, 48, 67, 68, 69, 70]) (.seq (.reg [⟨some 49, .bin 0 .lss (.t 48) (.t 47), [], none⟩])
        (.seq (.live [2, 5, 46, 47, 48, 49, 67, 68, 69, 70]) (.seq (.cnd (.t 49) .skip
          (.exit 0))
         (.seq (.blk 1 (.seq (.reg [⟨some 50, .ia 1 (.t 46) (.t 48), [], none⟩,
               ⟨some 51, .ld false 1 (.t 50), [], none⟩,
               ⟨some 8, .mv (.t 51), [], none⟩])
            (.seq (.live [2, 5, 8, 46, 47, 48, 67, 68, 69, 70]) (.seq (.reg [⟨some 52, .mv (.t 8), [], none⟩,
                ⟨some 53, .len (.t 52), [], none⟩,
                ⟨some 54, .mv (.c (.int .i64 0)), [], none⟩])
             (.seq (.live [2, 5, 46, 47, 48, 52, 53, 54, 67, 68, 69, 70]) (.blk 2 (.loop (.seq (.live [2, 5, 46, 47, 48, 52, 53, 54, 67, 68, 69, 70]) (.seq (.reg [⟨some 55, .bin 0 .lss (.t 54) (.t 53), [], none⟩])
                (.seq (.live [2, 5, 46, 47, 48, 52, 53, 54, 55, 67, 68, 69, 70]) (.seq (.cnd (.t 55) .skip
                  (.exit 2))
                 (.seq (.blk 3 (.seq (.reg [⟨some 56, .ia 1 (.t 52) (.t 54), [], none⟩,
                       ⟨some 57, .ld true 1 (.t 56), [], none⟩,
                       ⟨some 10, .new (.agg [.lit (.slice none 0 0)]), [], none⟩,
                       ⟨none, .st 1 (.t 10) (.t 57), [], none⟩])
                    (.seq (.live [2, 5, 10, 46, 47, 48, 52, 53, 54, 67, 68, 69, 70]) (.seq (.reg [⟨some 59, .mv (.t 5), [], none⟩,
                        ⟨some 60, .ld true 1 (.t 10), [], none⟩,
                        ⟨some 61, .call (.c (.fn (.func 165) [] [])) [.t 59, .t 60], [], none⟩,
                        ⟨some 58, .mv (.t 61), [], none⟩,
                        ⟨some 62, .ext (.t 58) 0, [], none⟩,
                        ⟨some 63, .ext (.t 58) 1, [], none⟩,
                        ⟨some 11, .mv (.t 62), [], none⟩,
                        ⟨some 12, .mv (.t 63), [], none⟩])
                     (.seq (.live [2, 5, 11, 12, 46, 47, 48, 52, 53, 54, 67, 68, 69, 70]) (.seq (.reg [⟨some 64, .mv (.t 12), [], none⟩,
                         ⟨some 65, .bin 0 .neq (.t 64) (.c (.int .i64 0)), [], none⟩,
                         ⟨some 66, .mv (.t 65), [], none⟩,
                         ⟨some 67, .mv (.t 11), [], some (66, false)⟩,
                         ⟨some 68, .ld true 4 (.t 2), [], some (66, false)⟩,
                         ⟨some 69, .call (.c (.fn (.func 175) [] [])) [.t 68], [], some (66, false)⟩,
                         ⟨some 70, .bin 0 .neq (.t 67) (.t 69), [], some (66, false)⟩,
                         ⟨some 71, .pick (.t 66) (.c (.bool true)) (.t 70), [], none⟩])
                      (.seq (.live [2, 5, 46, 47, 48, 52, 53, 54, 67, 68, 69, 70, 71]) (.cnd (.t 71) (.seq (.reg [⟨some 4, .mv (.c (.bool false)), [], none⟩])
                        .ret)
                       .skip))))))))
                  (.seq (.live [2, 5, 46, 47, 48, 52, 53, 54, 67, 68, 69, 70]) (.reg [⟨some 72, .bin 0 .add (.t 54) (.c (.int .i64 1)), [], none⟩,
                     ⟨some 54, .mv (.t 72), [], none⟩]))))))))))))))
          (.seq (.live [2, 5, 46, 47, 48, 67, 68, 69, 70]) (.reg [⟨some 73, .bin 0 .add (.t 48) (.c (.int .i64 1)), [], none⟩,
             ⟨some 48, .mv (.t 73), [], none⟩])))))))))))
    (.seq (.live []) (.seq (.reg [⟨some 4, .mv (.c (.bool true)), [], none⟩])
     .ret))))))))) }

/-- (*arras/eval.Eval).change -/
def ir104 : IFn :=
 { nt := 123, res := [.cell 6 true 2],
   body := (.seq (.reg [⟨some 4, .box 1 (.t 1), [], none⟩,
    ⟨some 5, .box 2 (.t 2), [], none⟩,
    ⟨some 6, .new (.agg [.lit (.slice none 0 0), .lit (.slice none 0 0)]), [], none⟩])
 (.seq (.live [0, 4, 5, 6]) (.seq (.reg [⟨some 20, .fa false 1 0 (.t 4), [], none⟩,
     ⟨some 21, .ld false 1 (.t 20), [], none⟩,
     ⟨some 22, .len (.t 21), [], none⟩,
     ⟨some 23, .bin 0 .sub (.t 22) (.c (.int .i64 1)), [], none⟩,
     ⟨some 7, .mv (.t 23), [], none⟩])
  (.seq (.live [0, 4, 5, 6, 7]) (.seq (.reg [⟨some 8, .new (.agg [.lit (.slice none 0 0), .lit (.slice none 0 0)]), [], none⟩])
   (.seq (.live [0, 4, 5, 6, 7, 8]) (.seq (.seq (.reg [⟨some 24, .fa false 1 0 (.t 4), [], none⟩,
        ⟨some 25, .ld false 1 (.t 24), [], none⟩,
        ⟨some 26, .len (.t 25), [], none⟩,
        ⟨some 27, .mv (.c (.int .i64 0)), [], none⟩])
     (.seq (.live [0, 5, 6, 7, 8, 25, 26, 27]) (.blk 0 (.loop (.seq (.live [0, 5, 6, 7, 8, 25, 26, 27]) (.seq (.reg [⟨some 28, .bin 0 .lss (.t 27) (.t 26), [], none⟩])
        (.seq (.live [0, 5, 6, 7, 8, 25, 26, 27, 28]) (.seq (.cnd (.t 28) .skip
          (.exit 0))
         (.seq (.blk 1 (.seq (.reg [⟨some 29, .mv (.t 27), [], none⟩,
               ⟨some 30, .ia 1 (.t 25) (.t 27), [], none⟩,
               ⟨some 31, .ld false 1 (.t 30), [], none⟩,
               ⟨some 9, .mv (.t 29), [], none⟩,
               ⟨some 10, .mv (.t 31), [], none⟩])
            (.seq (.live [0, 5, 6, 7, 8, 9, 10, 25, 26, 27]) (.seq (.reg [⟨some 32, .mv (.t 10), [], none⟩,
                ⟨some 33, .len (.t 32), [], none⟩,
                ⟨some 34, .mksl true 1 (.int .i64 0) 8 (.t 33) (.t 33), [], none⟩,
                ⟨some 11, .mv (.t 34), [], none⟩])
             (.seq (.live [0, 5, 6, 7, 8, 9, 10, 11, 25, 26, 27]) (.seq (.seq (.reg [⟨some 35, .mv (.t 10), [], none⟩,
                  ⟨some 36, .len (.t 35), [], none⟩,
                  ⟨some 37, .mv (.c (.int .i64 0)), [], none⟩])
               (.seq (.live [0, 5, 6, 7, 8, 9, 11, 25, 26, 27, 35, 36, 37]) (.blk 2 (.loop (.seq (.live [0, 5, 6, 7, 8, 9, 11, 25, 26, 27, 35, 36, 37]) (.seq (.reg [⟨some 38, .bin 0 .lss (.t 37) (.t 36), [], none⟩])
                  (.seq (.live [0, 5, 6, 7, 8, 9, 11, 25, 26, 27, 35, 36, 37, 38]) (.seq (.cnd (.t 38) .skip
                    (.exit 2))
                   (.seq (.blk 3 (.seq (.reg [⟨some 39, .mv (.t 37), [], none⟩,
                         ⟨some 40, .ia 1 (.t 35) (.t 37), [], none⟩,
                         ⟨some 41, .ld false 1 (.t 40), [], none⟩,
                         ⟨some 12, .mv (.t 39), [], none⟩,
                         ⟨some 13, .mv (.t 41), [], none⟩])
                      (.seq (.live [0, 5, 6, 7, 8, 9, 11, 12, 13, 25, 26, 27, 35, 36, 37]) (.reg [⟨some 42, .mv (.t 11), [], none⟩,
                         ⟨some 43, .mv (.t 12), [], none⟩,
                         ⟨some 44, .mv (.t 13), [], none⟩,
                         ⟨some 45, .mv (.t 0), [], none⟩,
                         ⟨some 46, .nilc (.t 45), [], none⟩,
                         ⟨some 47, .fa true 4 0 (.t 46), [], none⟩,
                         ⟨some 48, .fa false 1 2 (.t 47), [], none⟩,
                         ⟨some 49, .ld false 1 (.t 48), [], none⟩,
                         ⟨some 50, .mv (.t 9), [], none⟩,
                         ⟨some 51, .ia 1 (.t 49) (.t 50), [], none⟩,
                         ⟨some 52, .ld false 1 (.t 51), [], none⟩,
                         ⟨some 53, .call (.c (.fn (.func 135) [] [])) [.t 44, .t 52], [], none⟩,
                         ⟨some 54, .ia 1 (.t 42) (.t 43), [], none⟩,
                         ⟨none, .st 1 (.t 54) (.t 53), [], none⟩]))))
                    (.seq (.live [0, 5, 6, 7, 8, 9, 11, 25, 26, 27, 35, 36, 37]) (.reg [⟨some 55, .bin 0 .add (.t 37) (.c (.int .i64 1)), [], none⟩,
                       ⟨some 37, .mv (.t 55), [], none⟩])))))))))))
              (.seq (.live [0, 5, 6, 7, 8, 9, 11, 25, 26, 27]) (.seq (.reg [⟨some 57, .mv (.t 0), [], none⟩,
                  ⟨some 58, .nilc (.t 57), [], none⟩,
                  ⟨some 59, .fa false 1 4 (.t 58), [], none⟩,
                  ⟨some 60, .ld false 1 (.t 59), [], none⟩,
                  ⟨some 61, .mv (.t 11), [], none⟩,
                  ⟨some 62, .mv (.t 7), [], none⟩,
                  ⟨some 63, .call (.c (.fn (.func 94) [] [])) [.t 60, .t 61, .t 62], [], none⟩,
                  ⟨some 56, .mv (.t 63), [], none⟩,
                  ⟨some 64, .ext (.t 56) 0, [], none⟩,
                  ⟨some 65, .ext (.t 56) 1, [], none⟩,
                  ⟨some 14, .new (.agg [.lit (.slice none 0 0)]), [], none⟩,
                  ⟨none, .st 1 (.t 14) (.t 64), [], none⟩,
                  ⟨some 15, .mv (.t 65), [], none⟩])
               (.seq (.live [0, 5, 6, 7, 8, 9, 14, 25, 26, 27]) (.seq (.drw [⟨some 66, .fa false 1 0 (.t 5), [], none⟩,
                   ⟨some 67, .ld false 1 (.t 66), [0], none⟩,
                   ⟨some 68, .mv (.t 9), [], none⟩,
                   ⟨some 69, .ia 1 (.t 67) (.t 68), [1, 2], none⟩,
                   ⟨some 70, .ld true 1 (.t 69), [3], none⟩,
                   ⟨some 71, .fa false 1 1 (.t 5), [], none⟩,
                   ⟨some 72, .ld false 1 (.t 71), [5], none⟩,
                   ⟨some 73, .mv (.t 9), [], none⟩,
                   ⟨some 74, .ia 1 (.t 72) (.t 73), [6, 7], none⟩,
                   ⟨some 75, .ld true 1 (.t 74), [8], none⟩,
                   ⟨some 76, .bsl false 1 (.agg [.lit (.slice none 0 0)]) 2 [(0, .t 70), (1, .t 75)], [4, 9], none⟩,
                   ⟨some 77, .len (.t 76), [10], none⟩,
                   ⟨some 78, .mv (.c (.int .i64 0)), [], none⟩])
                (.seq (.live [0, 5, 6, 7, 8, 9, 14, 25, 26, 27, 76, 77, 78]) (.blk 4 (.loop (.seq (.live [0, 5, 6, 7, 8, 9, 14, 25, 26, 27, 76, 77, 78]) (.seq (.reg [⟨some 79, .bin 0 .lss (.t 78) (.t 77), [], none⟩])
                   (.seq (.live [0, 5, 6, 7, 8, 9, 14, 25, 26, 27, 76, 77, 78, 79]) (.seq (.cnd (.t 79) .skip
                     (.exit 4))
                    (.seq (.blk 5 (.seq (.reg [⟨some 80, .mv (.t 78), [], none⟩,
                          ⟨some 81, .ia 1 (.t 76) (.t 78), [], none⟩,
                          ⟨some 82, .ld true 1 (.t 81), [], none⟩,
                          ⟨some 17, .new (.agg [.lit (.slice none 0 0)]), [], none⟩,
                          ⟨some 16, .mv (.t 80), [], none⟩,
                          ⟨none, .st 1 (.t 17) (.t 82), [], none⟩])
                       (.seq (.live [0, 5, 6, 7, 8, 9, 14, 16, 17, 25, 26, 27, 76, 77, 78]) (.seq (.drw [⟨some 84, .mv (.t 0), [], none⟩,
                           ⟨some 85, .nilc (.t 84), [0], none⟩,
                           ⟨some 86, .fa false 1 4 (.t 85), [1], none⟩,
                           ⟨some 87, .ld false 1 (.t 86), [2], none⟩,
                           ⟨some 88, .ld true 1 (.t 17), [], none⟩,
                           ⟨some 89, .mv (.t 7), [], none⟩,
                           ⟨some 90, .call (.c (.fn (.func 129) [] [])) [.t 87, .t 88, .t 89], [3, 4, 5], none⟩,
                           ⟨some 83, .mv (.t 90), [6], none⟩,
                           ⟨some 91, .ext (.t 83) 0, [7], none⟩,
                           ⟨some 92, .ext (.t 83) 1, [7], none⟩,
                           ⟨some 18, .new (.agg [.lit (.slice none 0 0)]), [], none⟩,
                           ⟨none, .st 1 (.t 18) (.t 91), [10, 8, 6, 0, 1, 2, 3, 4, 5, 7], none⟩,
                           ⟨some 19, .mv (.t 92), [9, 11, 0, 1, 2, 3, 4, 5, 6, 7, 8, 10], none⟩])
                        (.seq (.live [0, 5, 6, 7, 8, 9, 14, 16, 18, 25, 26, 27, 76, 77, 78]) (.seq (.drw [⟨some 94, .mv (.t 0), [], none⟩,
                            ⟨some 95, .nilc (.t 94), [0], none⟩,
                            ⟨some 96, .fa false 1 4 (.t 95), [1], none⟩,
                            ⟨some 97, .ld false 1 (.t 96), [2], none⟩,
                            ⟨some 98, .ld true 1 (.t 14), [], none⟩,
                            ⟨some 99, .ld true 1 (.t 18), [], none⟩,
                            ⟨some 100, .call (.c (.fn (.func 97) [] [])) [.t 97, .t 98, .t 99], [3, 4, 5], none⟩,
                            ⟨some 93, .mv (.t 100), [6], none⟩,
                            ⟨some 101, .ext (.t 93) 0, [7], none⟩,
                            ⟨some 102, .ext (.t 93) 1, [7], none⟩,
                            ⟨none, .st 1 (.t 18) (.t 101), [8, 6, 0, 1, 2, 3, 4, 5, 7], none⟩])
                         (.seq (.live [0, 5, 6, 7, 8, 9, 14, 16, 18, 25, 26, 27, 76, 77, 78]) (.seq (.seq (.reg [⟨some 103, .mv (.t 9), [], none⟩,
                              ⟨some 104, .bin 0 .gtr (.t 103) (.c (.int .i64 0)), [], none⟩])
                           (.seq (.live [0, 5, 6, 7, 8, 9, 14, 16, 18, 25, 26, 27, 76, 77, 78, 104]) (.cnd (.t 104) (.drw [⟨some 106, .mv (.t 0), [], none⟩,
                               ⟨some 107, .nilc (.t 106), [0], none⟩,
                               ⟨some 108, .fa false 1 4 (.t 107), [1], none⟩,
                               ⟨some 109, .ld false 1 (.t 108), [2], none⟩,
                               ⟨some 110, .mv (.t 16), [], none⟩,
                               ⟨some 111, .iarr 2 1 true (.t 8) (.t 110), [4], none⟩,
                               ⟨some 112, .ld true 1 (.t 111), [5], none⟩,
                               ⟨some 113, .ld true 1 (.t 18), [], none⟩,
                               ⟨some 114, .call (.c (.fn (.func 60) [] [])) [.t 109, .t 112, .t 113], [3, 6, 7], none⟩,
                               ⟨some 105, .mv (.t 114), [8], none⟩,
                               ⟨some 115, .ext (.t 105) 0, [9], none⟩,
                               ⟨some 116, .ext (.t 105) 1, [9], none⟩,
                               ⟨none, .st 1 (.t 18) (.t 115), [10, 8, 0, 1, 2, 3, 4, 5, 6, 7, 9], none⟩])
                            .skip)))
                          (.seq (.live [0, 5, 6, 7, 8, 9, 14, 16, 18, 25, 26, 27, 76, 77, 78]) (.reg [⟨some 117, .mv (.t 16), [], none⟩,
                             ⟨some 118, .ld true 1 (.t 18), [], none⟩,
                             ⟨some 119, .iarr 2 1 true (.t 8) (.t 117), [], none⟩,
                             ⟨none, .st 1 (.t 119) (.t 118), [], none⟩]))))))))))
                     (.seq (.live [0, 5, 6, 7, 8, 9, 14, 25, 26, 27, 76, 77, 78]) (.reg [⟨some 120, .bin 0 .add (.t 78) (.c (.int .i64 1)), [], none⟩,
                        ⟨some 78, .mv (.t 120), [], none⟩]))))))))))))))))))))
          (.seq (.live [0, 5, 6, 7, 8, 25, 26, 27]) (.reg [⟨some 121, .bin 0 .add (.t 27) (.c (.int .i64 1)), [], none⟩,
             ⟨some 27, .mv (.t 121), [], none⟩])))))))))))
    (.seq (.live [6, 8]) (.seq (.reg [⟨some 122, .ld true 2 (.t 8), [], none⟩,
        ⟨none, .st 2 (.t 6) (.t 122), [], none⟩])
     .ret))))))))) }

/-- (*arras/eval.Eval).Relin -/
def ir33 : IFn :=
 { nt := 69, res := [.cell 6 true 1, .t 7],
   body := (.seq (.reg [⟨some 4, .box 1 (.t 1), [], none⟩,
    ⟨some 5, .box 2 (.t 2), [], none⟩,
    ⟨some 6, .new (.agg [.lit (.slice none 0 0)]), [], none⟩,
    ⟨some 7, .mv (.c (.int .i64 0)), [], none⟩])
 (.seq (.live [0, 4, 5, 6]) (.seq (.seq (.reg [⟨some 13, .mv (.t 0), [], none⟩,
      ⟨some 14, .ld true 1 (.t 4), [], none⟩,
      ⟨some 15, .bsl false 1 (.agg [.lit (.slice none 0 0)]) 1 [(0, .t 14)], [], none⟩,
      ⟨some 16, .call (.c (.fn (.func 58) [] [])) [.t 13, .t 15], [], none⟩,
      ⟨some 12, .mv (.t 16), [], none⟩,
      ⟨some 17, .ext (.t 12) 0, [], none⟩,
      ⟨some 18, .ext (.t 12) 1, [], none⟩,
      ⟨some 8, .mv (.t 17), [], none⟩,
      ⟨some 9, .mv (.t 18), [], none⟩])
   (.seq (.live [0, 4, 5, 6, 9]) (.seq (.reg [⟨some 19, .mv (.t 9), [], none⟩,
       ⟨some 20, .bin 0 .neq (.t 19) (.c (.int .i64 0)), [], none⟩])
    (.seq (.live [0, 4, 5, 6, 9, 20]) (.cnd (.t 20) (.seq (.reg [⟨some 21, .build [.lit (.slice none 0 0)] [], [], none⟩,
         ⟨some 22, .mv (.t 9), [], none⟩,
         ⟨none, .st 1 (.t 6) (.t 21), [], none⟩,
         ⟨some 7, .mv (.t 22), [], none⟩])
      .ret)
     .skip)))))
  (.seq (.live [0, 4, 5, 6]) (.seq (.blk 0 (.seq (.reg [⟨some 24, .fa false 1 0 (.t 4), [], none⟩,
        ⟨some 25, .ld false 1 (.t 24), [], none⟩,
        ⟨some 26, .len (.t 25), [], none⟩,
        ⟨some 27, .bin 0 .neq (.t 26) (.c (.int .i64 3)), [], none⟩,
        ⟨some 23, .mv (.t 27), [], none⟩])
     (.seq (.live [0, 4, 5, 6, 23]) (.cnd (.t 23) (.seq (.reg [⟨some 28, .build [.lit (.slice none 0 0)] [], [], none⟩,
          ⟨none, .st 1 (.t 6) (.t 28), [], none⟩,
          ⟨some 7, .mv (.c (.int .i64 4)), [], none⟩])
       .ret)
      (.seq (.drw [⟨some 30, .mv (.t 0), [], none⟩,
          ⟨some 31, .nilc (.t 30), [0], none⟩,
          ⟨some 32, .fa true 4 0 (.t 31), [1], none⟩,
          ⟨some 33, .ld true 4 (.t 32), [2], none⟩,
          ⟨some 34, .ld true 2 (.t 5), [], none⟩,
          ⟨some 35, .call (.c (.fn (.func 103) [] [])) [.t 33, .t 34], [3, 4], none⟩,
          ⟨some 36, .un .not (.t 35), [5], none⟩,
          ⟨some 29, .mv (.t 36), [6, 5], none⟩])
       (.seq (.live [0, 4, 5, 6, 29]) (.cnd (.t 29) (.seq (.reg [⟨some 37, .build [.lit (.slice none 0 0)] [], [], none⟩,
            ⟨none, .st 1 (.t 6) (.t 37), [], none⟩,
            ⟨some 7, .mv (.c (.int .i64 9)), [], none⟩])
         .ret)
        .skip)))))))
   (.seq (.live [0, 4, 5, 6]) (.seq (.drw [⟨some 38, .mv (.t 0), [], none⟩,
       ⟨some 39, .fa false 1 0 (.t 4), [], none⟩,
       ⟨some 40, .ld false 1 (.t 39), [1], none⟩,
       ⟨some 41, .ia 1 (.t 40) (.c (.int .i64 2)), [2], none⟩,
       ⟨some 42, .ld true 1 (.t 41), [3], none⟩,
       ⟨some 43, .ld true 2 (.t 5), [], none⟩,
       ⟨some 44, .call (.c (.fn (.func 104) [] [])) [.t 38, .t 42, .t 43], [0, 4, 5], none⟩,
       ⟨some 10, .new (.agg [.lit (.slice none 0 0), .lit (.slice none 0 0)]), [], none⟩,
       ⟨none, .st 2 (.t 10) (.t 44), [7, 6, 0, 1, 2, 3, 4, 5], none⟩])
    (.seq (.live [0, 4, 6, 10]) (.seq (.seq (.reg [⟨some 45, .mv (.c (.int .i64 0)), [], none⟩])
      (.seq (.live [0, 4, 6, 10, 45]) (.blk 1 (.loop (.seq (.live [0, 4, 6, 10, 45]) (.seq (.reg [⟨some 46, .bin 0 .lss (.t 45) (.c (.int .i64 2)), [], none⟩])
         (.seq (.live [0, 4, 6, 10, 45, 46]) (.seq (.cnd (.t 46) .skip
           (.exit 1))
          (.seq (.blk 2 (.seq (.reg [⟨some 47, .mv (.t 45), [], none⟩,
                ⟨some 11, .mv (.t 47), [], none⟩])
             (.seq (.live [0, 4, 6, 10, 11, 45]) (.drw [⟨some 49, .mv (.t 11), [], none⟩,
                ⟨some 50, .mv (.t 0), [], none⟩,
                ⟨some 51, .nilc (.t 50), [1], none⟩,
                ⟨some 52, .fa false 1 4 (.t 51), [2], none⟩,
                ⟨some 53, .ld false 1 (.t 52), [3], none⟩,
                ⟨some 54, .mv (.t 11), [], none⟩,
                ⟨some 55, .iarr 2 1 true (.t 10) (.t 54), [5], none⟩,
                ⟨some 56, .ld true 1 (.t 55), [6], none⟩,
                ⟨some 57, .fa false 1 0 (.t 4), [], none⟩,
                ⟨some 58, .ld false 1 (.t 57), [8], none⟩,
                ⟨some 59, .mv (.t 11), [], none⟩,
                ⟨some 60, .ia 1 (.t 58) (.t 59), [9, 10], none⟩,
                ⟨some 61, .ld true 1 (.t 60), [11], none⟩,
                ⟨some 62, .call (.c (.fn (.func 60) [] [])) [.t 53, .t 56, .t 61], [4, 7, 12], none⟩,
                ⟨some 48, .mv (.t 62), [13], none⟩,
                ⟨some 63, .ext (.t 48) 0, [14], none⟩,
                ⟨some 64, .ext (.t 48) 1, [14], none⟩,
                ⟨some 65, .iarr 2 1 true (.t 10) (.t 49), [0, 1, 2, 3, 4, 5, 6, 7, 8, 9, 10, 11, 12, 13, 14, 15], none⟩,
                ⟨none, .st 1 (.t 65) (.t 63), [17, 15, 13, 0, 1, 2, 3, 4, 5, 6, 7, 8, 9, 10, 11, 12, 14], none⟩]))))
           (.seq (.live [0, 4, 6, 10, 45]) (.reg [⟨some 66, .bin 0 .add (.t 45) (.c (.int .i64 1)), [], none⟩,
              ⟨some 45, .mv (.t 66), [], none⟩])))))))))))
     (.seq (.live [6, 10]) (.seq (.reg [⟨some 67, .slarr 2 1 true false (.t 10), [], none⟩,
         ⟨some 68, .build [.lit (.slice none 0 0)] [(0, 1, .t 67)], [], none⟩,
         ⟨none, .st 1 (.t 6) (.t 68), [], none⟩,
         ⟨some 7, .mv (.c (.int .i64 0)), [], none⟩])
      .ret))))))))))) }

/-- (*arras/ring.Ring).Turn -/
def ir111 : IFn :=
 { nt := 106, res := [.cell 6 true 1, .t 7],
   body := (.seq (.reg [⟨some 4, .box 1 (.t 1), [], none⟩,
    ⟨some 6, .new (.agg [.lit (.slice none 0 0)]), [], none⟩,
    ⟨some 7, .mv (.c (.int .i64 0)), [], none⟩])
 (.seq (.live [0, 2, 4, 6, 21, 22, 23]) (.seq (.seq (.reg [⟨some 18, .mv (.t 0), [], none⟩,
      ⟨some 19, .bin 2 .eql (.t 18) (.c (.lit (.pointer none))), [], none⟩,
      ⟨some 20, .mv (.t 19), [], none⟩,
      ⟨some 21, .mv (.t 2), [], some (20, false)⟩,
      ⟨some 22, .bin 0 .and (.t 21) (.c (.int .i64 1)), [], some (20, false)⟩,
      ⟨some 23, .bin 0 .eql (.t 22) (.c (.int .i64 0)), [], some (20, false)⟩,
      ⟨some 24, .pick (.t 20) (.c (.bool true)) (.t 23), [], none⟩])
   (.seq (.live [0, 2, 4, 6, 24]) (.cnd (.t 24) (.seq (.reg [⟨some 25, .build [.lit (.slice none 0 0)] [], [], none⟩,
        ⟨none, .st 1 (.t 6) (.t 25), [], none⟩,
        ⟨some 7, .mv (.c (.int .i64 1)), [], none⟩])
     .ret)
    .skip)))
  (.seq (.live [0, 2, 4, 6]) (.seq (.seq (.reg [⟨some 27, .mv (.t 0), [], none⟩,
       ⟨some 28, .ld true 1 (.t 4), [], none⟩,
       ⟨some 29, .call (.c (.fn (.func 165) [] [])) [.t 27, .t 28], [], none⟩,
       ⟨some 26, .mv (.t 29), [], none⟩,
       ⟨some 30, .ext (.t 26) 0, [], none⟩,
       ⟨some 31, .ext (.t 26) 1, [], none⟩,
       ⟨some 8, .mv (.t 30), [], none⟩,
       ⟨some 9, .mv (.t 31), [], none⟩])
    (.seq (.live [0, 2, 4, 6, 9]) (.seq (.reg [⟨some 32, .mv (.t 9), [], none⟩,
        ⟨some 33, .bin 0 .neq (.t 32) (.c (.int .i64 0)), [], none⟩])
     (.seq (.live [0, 2, 4, 6, 9, 33]) (.cnd (.t 33) (.seq (.reg [⟨some 34, .build [.lit (.slice none 0 0)] [], [], none⟩,
          ⟨some 35, .mv (.t 9), [], none⟩,
          ⟨none, .st 1 (.t 6) (.t 34), [], none⟩,
          ⟨some 7, .mv (.t 35), [], none⟩])
       .ret)
      .skip)))))
   (.seq (.live [0, 2, 4, 6]) (.seq (.reg [⟨some 36, .mv (.t 0), [], none⟩,
       ⟨some 37, .nilc (.t 36), [], none⟩,
       ⟨some 38, .fa false 1 0 (.t 37), [], none⟩,
       ⟨some 39, .ld false 1 (.t 38), [], none⟩,
       ⟨some 40, .bin 0 .mul (.c (.int .i64 2)) (.t 39), [], none⟩,
       ⟨some 41, .bin 0 .sub (.t 40) (.c (.int .i64 1)), [], none⟩,
       ⟨some 10, .mv (.t 41), [], none⟩])
    (.seq (.live [0, 2, 4, 6, 10]) (.seq (.reg [⟨some 42, .build [.lit (.slice none 0 0)] [], [], none⟩,
        ⟨some 11, .new (.agg [.lit (.slice none 0 0)]), [], none⟩,
        ⟨none, .st 1 (.t 11) (.t 42), [], none⟩])
     (.seq (.live [0, 2, 4, 6, 10, 11]) (.seq (.seq (.reg [⟨some 43, .fa false 1 0 (.t 4), [], none⟩,
          ⟨some 44, .ld false 1 (.t 43), [], none⟩,
          ⟨some 45, .len (.t 44), [], none⟩,
          ⟨some 46, .mv (.c (.int .i64 0)), [], none⟩])
       (.seq (.live [0, 2, 6, 10, 11, 44, 45, 46]) (.blk 0 (.loop (.seq (.live [0, 2, 6, 10, 11, 44, 45, 46]) (.seq (.reg [⟨some 47, .bin 0 .lss (.t 46) (.t 45), [], none⟩])
          (.seq (.live [0, 2, 6, 10, 11, 44, 45, 46, 47]) (.seq (.cnd (.t 47) .skip
            (.exit 0))
           (.seq (.blk 1 (.seq (.reg [⟨some 48, .mv (.t 46), [], none⟩,
                 ⟨some 49, .ia 1 (.t 44) (.t 46), [], none⟩,
                 ⟨some 50, .ld false 1 (.t 49), [], none⟩,
                 ⟨some 12, .mv (.t 48), [], none⟩,
                 ⟨some 13, .mv (.t 50), [], none⟩])
              (.seq (.live [0, 2, 6, 10, 11, 12, 13, 44, 45, 46]) (.seq (.reg [⟨some 51, .mv (.t 0), [], none⟩,
                  ⟨some 52, .nilc (.t 51), [], none⟩,
                  ⟨some 53, .fa false 1 0 (.t 52), [], none⟩,
                  ⟨some 54, .ld false 1 (.t 53), [], none⟩,
                  ⟨some 55, .mksl true 1 (.int .u64 0) 8 (.t 54) (.t 54), [], none⟩,
                  ⟨some 14, .mv (.t 55), [], none⟩,
                  ⟨some 15, .mv (.c (.int .i64 0)), [], none⟩])
               (.seq (.live [0, 2, 6, 10, 11, 12, 13, 14, 15, 44, 45, 46]) (.seq (.seq (.reg [⟨some 56, .mv (.t 13), [], none⟩,
                    ⟨some 57, .len (.t 56), [], none⟩,
                    ⟨some 58, .mv (.c (.int .i64 0)), [], none⟩])
                 (.seq (.live [0, 2, 6, 10, 11, 12, 14, 15, 44, 45, 46, 56, 57, 58]) (.blk 2 (.loop (.seq (.live [0, 2, 6, 10, 11, 12, 14, 15, 44, 45, 46, 56, 57, 58]) (.seq (.reg [⟨some 59, .bin 0 .lss (.t 58) (.t 57), [], none⟩])
                    (.seq (.live [0, 2, 6, 10, 11, 12, 14, 15, 44, 45, 46, 56, 57, 58, 59]) (.seq (.cnd (.t 59) .skip
                      (.exit 2))
                     (.seq (.blk 3 (.seq (.reg [⟨some 60, .ia 1 (.t 56) (.t 58), [], none⟩,
                           ⟨some 61, .ld false 1 (.t 60), [], none⟩,
                           ⟨some 17, .mv (.t 61), [], none⟩])
                        (.seq (.live [0, 2, 6, 10, 11, 12, 14, 15, 17, 44, 45, 46, 56, 57, 58]) (.seq (.seq (.reg [⟨some 62, .mv (.t 15), [], none⟩,
                             ⟨some 63, .mv (.t 0), [], none⟩,
                             ⟨some 64, .nilc (.t 63), [], none⟩,
                             ⟨some 65, .fa false 1 0 (.t 64), [], none⟩,
                             ⟨some 66, .ld false 1 (.t 65), [], none⟩,
                             ⟨some 67, .bin 0 .and (.t 62) (.t 66), [], none⟩,
                             ⟨some 68, .bin 0 .eql (.t 67) (.c (.int .i64 0)), [], none⟩])
                          (.seq (.live [0, 2, 6, 10, 11, 12, 14, 15, 17, 44, 45, 46, 56, 57, 58, 68]) (.cnd (.t 68) (.reg [⟨some 69, .mv (.t 14), [], none⟩,
                              ⟨some 70, .mv (.t 15), [], none⟩,
                              ⟨some 71, .mv (.t 17), [], none⟩,
                              ⟨some 72, .ia 1 (.t 69) (.t 70), [], none⟩,
                              ⟨none, .st 1 (.t 72) (.t 71), [], none⟩])
                           (.drw [⟨some 73, .mv (.t 14), [], none⟩,
                              ⟨some 74, .mv (.t 15), [], none⟩,
                              ⟨some 75, .mv (.t 0), [], none⟩,
                              ⟨some 76, .nilc (.t 75), [2], none⟩,
                              ⟨some 77, .fa false 1 0 (.t 76), [3], none⟩,
                              ⟨some 78, .ld false 1 (.t 77), [4], none⟩,
                              ⟨some 79, .bin 0 .sub (.t 74) (.t 78), [1, 5], none⟩,
                              ⟨some 80, .mv (.t 17), [], none⟩,
                              ⟨some 81, .mv (.t 0), [], none⟩,
                              ⟨some 82, .nilc (.t 81), [8], none⟩,
                              ⟨some 83, .fa false 1 1 (.t 82), [9], none⟩,
                              ⟨some 84, .ld false 1 (.t 83), [10], none⟩,
                              ⟨some 85, .mv (.t 12), [], none⟩,
                              ⟨some 86, .ia 1 (.t 84) (.t 85), [11, 12], none⟩,
                              ⟨some 87, .ld false 1 (.t 86), [13], none⟩,
                              ⟨some 88, .call (.c (.fn (.func 177) [] [])) [.c (.int .u64 0), .t 80, .t 87], [7, 14], none⟩,
                              ⟨some 89, .ia 1 (.t 73) (.t 79), [0, 6, 1, 2, 3, 4, 5, 7, 8, 9, 10, 11, 12, 13, 14, 15], none⟩,
                              ⟨none, .st 1 (.t 89) (.t 88), [16, 15, 0, 1, 2, 3, 4, 5, 6, 7, 8, 9, 10, 11, 12, 13, 14], none⟩]))))
                         (.seq (.live [0, 2, 6, 10, 11, 12, 14, 15, 44, 45, 46, 56, 57, 58]) (.reg [⟨some 90, .mv (.t 15), [], none⟩,
                            ⟨some 91, .mv (.t 2), [], none⟩,
                            ⟨some 92, .mv (.t 10), [], none⟩,
                            ⟨some 93, .bin 0 .and (.t 91) (.t 92), [], none⟩,
                            ⟨some 94, .bin 0 .add (.t 90) (.t 93), [], none⟩,
                            ⟨some 95, .mv (.t 10), [], none⟩,
                            ⟨some 96, .bin 0 .and (.t 94) (.t 95), [], none⟩,
                            ⟨some 15, .mv (.t 96), [], none⟩]))))))
                      (.seq (.live [0, 2, 6, 10, 11, 12, 14, 15, 44, 45, 46, 56, 57, 58]) (.reg [⟨some 97, .bin 0 .add (.t 58) (.c (.int .i64 1)), [], none⟩,
                         ⟨some 58, .mv (.t 97), [], none⟩])))))))))))
                (.seq (.live [0, 2, 6, 10, 11, 14, 44, 45, 46]) (.reg [⟨some 98, .fa false 1 0 (.t 11), [], none⟩,
                   ⟨some 99, .ld false 1 (.t 98), [], none⟩,
                   ⟨some 100, .mv (.t 14), [], none⟩,
                   ⟨some 101, .bsl false 1 (.lit (.slice none 0 0)) 1 [(0, .t 100)], [], none⟩,
                   ⟨some 102, .app false 1 24 (.t 99) (.t 101), [], none⟩,
                   ⟨some 103, .fa false 1 0 (.t 11), [], none⟩,
                   ⟨none, .st 1 (.t 103) (.t 102), [], none⟩]))))))))
            (.seq (.live [0, 2, 6, 10, 11, 44, 45, 46]) (.reg [⟨some 104, .bin 0 .add (.t 46) (.c (.int .i64 1)), [], none⟩,
               ⟨some 46, .mv (.t 104), [], none⟩])))))))))))
      (.seq (.live [6, 11]) (.seq (.reg [⟨some 105, .ld true 1 (.t 11), [], none⟩,
          ⟨none, .st 1 (.t 6) (.t 105), [], none⟩,
          ⟨some 7, .mv (.c (.int .i64 0)), [], none⟩])
       .ret))))))))))))) }

/-- (*arras/eval.Eval).Turn -/
def ir39 : IFn :=
 { nt := 94, res := [.cell 8 true 1, .t 9],
   body := (.seq (.reg [⟨some 5, .box 1 (.t 1), [], none⟩,
    ⟨some 7, .box 2 (.t 3), [], none⟩,
    ⟨some 8, .new (.agg [.lit (.slice none 0 0)]), [], none⟩,
    ⟨some 9, .mv (.c (.int .i64 0)), [], none⟩])
 (.seq (.live [0, 2, 5, 7, 8]) (.seq (.seq (.reg [⟨some 19, .mv (.t 0), [], none⟩,
      ⟨some 20, .ld true 1 (.t 5), [], none⟩,
      ⟨some 21, .bsl false 1 (.agg [.lit (.slice none 0 0)]) 1 [(0, .t 20)], [], none⟩,
      ⟨some 22, .call (.c (.fn (.func 58) [] [])) [.t 19, .t 21], [], none⟩,
      ⟨some 18, .mv (.t 22), [], none⟩,
      ⟨some 23, .ext (.t 18) 0, [], none⟩,
      ⟨some 24, .ext (.t 18) 1, [], none⟩,
      ⟨some 10, .mv (.t 23), [], none⟩,
      ⟨some 11, .mv (.t 24), [], none⟩])
   (.seq (.live [0, 2, 5, 7, 8, 11]) (.seq (.reg [⟨some 25, .mv (.t 11), [], none⟩,
       ⟨some 26, .bin 0 .neq (.t 25) (.c (.int .i64 0)), [], none⟩])
    (.seq (.live [0, 2, 5, 7, 8, 11, 26]) (.cnd (.t 26) (.seq (.reg [⟨some 27, .build [.lit (.slice none 0 0)] [], [], none⟩,
         ⟨some 28, .mv (.t 11), [], none⟩,
         ⟨none, .st 1 (.t 8) (.t 27), [], none⟩,
         ⟨some 9, .mv (.t 28), [], none⟩])
      .ret)
     .skip)))))
  (.seq (.live [0, 2, 5, 7, 8]) (.seq (.blk 0 (.seq (.reg [⟨some 30, .fa false 1 0 (.t 5), [], none⟩,
        ⟨some 31, .ld false 1 (.t 30), [], none⟩,
        ⟨some 32, .len (.t 31), [], none⟩,
        ⟨some 33, .bin 0 .neq (.t 32) (.c (.int .i64 2)), [], none⟩,
        ⟨some 29, .mv (.t 33), [], none⟩])
     (.seq (.live [0, 2, 5, 7, 8, 29]) (.cnd (.t 29) (.seq (.reg [⟨some 34, .build [.lit (.slice none 0 0)] [], [], none⟩,
          ⟨none, .st 1 (.t 8) (.t 34), [], none⟩,
          ⟨some 9, .mv (.c (.int .i64 4)), [], none⟩])
       .ret)
      (.seq (.drw [⟨some 36, .mv (.t 0), [], none⟩,
          ⟨some 37, .nilc (.t 36), [0], none⟩,
          ⟨some 38, .fa true 4 0 (.t 37), [1], none⟩,
          ⟨some 39, .ld true 4 (.t 38), [2], none⟩,
          ⟨some 40, .ld true 2 (.t 7), [], none⟩,
          ⟨some 41, .call (.c (.fn (.func 103) [] [])) [.t 39, .t 40], [3, 4], none⟩,
          ⟨some 42, .un .not (.t 41), [5], none⟩,
          ⟨some 35, .mv (.t 42), [6, 5], none⟩])
       (.seq (.live [0, 2, 5, 7, 8, 35]) (.cnd (.t 35) (.seq (.reg [⟨some 43, .build [.lit (.slice none 0 0)] [], [], none⟩,
            ⟨none, .st 1 (.t 8) (.t 43), [], none⟩,
            ⟨some 9, .mv (.c (.int .i64 9)), [], none⟩])
         .ret)
        .skip)))))))
   (.seq (.live [0, 2, 5, 7, 8]) (.seq (.reg [⟨some 44, .mv (.t 0), [], none⟩,
       ⟨some 45, .nilc (.t 44), [], none⟩,
       ⟨some 46, .fa false 1 6 (.t 45), [], none⟩,
       ⟨some 47, .ld false 1 (.t 46), [], none⟩,
       ⟨some 48, .mv (.t 2), [], none⟩,
       ⟨some 49, .call (.c (.fn (.func 110) [] [])) [.t 47, .t 48], [], none⟩,
       ⟨some 12, .mv (.t 49), [], none⟩])
    (.seq (.live [0, 5, 7, 8, 12]) (.seq (.drw [⟨some 51, .mv (.t 0), [], none⟩,
        ⟨some 52, .nilc (.t 51), [0], none⟩,
        ⟨some 53, .fa false 1 4 (.t 52), [1], none⟩,
        ⟨some 54, .ld false 1 (.t 53), [2], none⟩,
        ⟨some 55, .fa false 1 0 (.t 5), [], none⟩,
        ⟨some 56, .ld false 1 (.t 55), [4], none⟩,
        ⟨some 57, .ia 1 (.t 56) (.c (.int .i64 0)), [5], none⟩,
        ⟨some 58, .ld true 1 (.t 57), [6], none⟩,
        ⟨some 59, .mv (.t 12), [], none⟩,
        ⟨some 60, .call (.c (.fn (.func 111) [] [])) [.t 54, .t 58, .t 59], [3, 7, 8], none⟩,
        ⟨some 50, .mv (.t 60), [9], none⟩,
        ⟨some 61, .ext (.t 50) 0, [10], none⟩,
        ⟨some 62, .ext (.t 50) 1, [10], none⟩,
        ⟨some 13, .new (.agg [.lit (.slice none 0 0)]), [], none⟩,
        ⟨none, .st 1 (.t 13) (.t 61), [13, 11, 9, 0, 1, 2, 3, 4, 5, 6, 7, 8, 10], none⟩,
        ⟨some 14, .mv (.t 62), [12, 14, 0, 1, 2, 3, 4, 5, 6, 7, 8, 9, 10, 11, 13], none⟩])
     (.seq (.live [0, 5, 7, 8, 12, 13]) (.seq (.drw [⟨some 64, .mv (.t 0), [], none⟩,
         ⟨some 65, .nilc (.t 64), [0], none⟩,
         ⟨some 66, .fa false 1 4 (.t 65), [1], none⟩,
         ⟨some 67, .ld false 1 (.t 66), [2], none⟩,
         ⟨some 68, .fa false 1 0 (.t 5), [], none⟩,
         ⟨some 69, .ld false 1 (.t 68), [4], none⟩,
         ⟨some 70, .ia 1 (.t 69) (.c (.int .i64 1)), [5], none⟩,
         ⟨some 71, .ld true 1 (.t 70), [6], none⟩,
         ⟨some 72, .mv (.t 12), [], none⟩,
         ⟨some 73, .call (.c (.fn (.func 111) [] [])) [.t 67, .t 71, .t 72], [3, 7, 8], none⟩,
         ⟨some 63, .mv (.t 73), [9], none⟩,
         ⟨some 74, .ext (.t 63) 0, [10], none⟩,
         ⟨some 75, .ext (.t 63) 1, [10], none⟩,
         ⟨some 15, .new (.agg [.lit (.slice none 0 0)]), [], none⟩,
         ⟨none, .st 1 (.t 15) (.t 74), [13, 11, 9, 0, 1, 2, 3, 4, 5, 6, 7, 8, 10], none⟩,
         ⟨some 16, .mv (.t 75), [12, 14, 0, 1, 2, 3, 4, 5, 6, 7, 8, 9, 10, 11, 13], none⟩])
      (.seq (.live [0, 7, 8, 13, 15]) (.seq (.reg [⟨some 76, .mv (.t 0), [], none⟩,
          ⟨some 77, .ld true 1 (.t 15), [], none⟩,
          ⟨some 78, .ld true 2 (.t 7), [], none⟩,
          ⟨some 79, .call (.c (.fn (.func 104) [] [])) [.t 76, .t 77, .t 78], [], none⟩,
          ⟨some 17, .new (.agg [.lit (.slice none 0 0), .lit (.slice none 0 0)]), [], none⟩,
          ⟨none, .st 2 (.t 17) (.t 79), [], none⟩])
       (.seq (.live [0, 8, 13, 17]) (.seq (.drw [⟨some 81, .mv (.t 0), [], none⟩,
           ⟨some 82, .nilc (.t 81), [0], none⟩,
           ⟨some 83, .fa false 1 4 (.t 82), [1], none⟩,
           ⟨some 84, .ld false 1 (.t 83), [2], none⟩,
           ⟨some 85, .iarr 2 1 true (.t 17) (.c (.int .i64 0)), [], none⟩,
           ⟨some 86, .ld true 1 (.t 85), [4], none⟩,
           ⟨some 87, .ld true 1 (.t 13), [], none⟩,
           ⟨some 88, .call (.c (.fn (.func 60) [] [])) [.t 84, .t 86, .t 87], [3, 5, 6], none⟩,
           ⟨some 80, .mv (.t 88), [7], none⟩,
           ⟨some 89, .ext (.t 80) 0, [8], none⟩,
           ⟨some 90, .ext (.t 80) 1, [8], none⟩,
           ⟨some 91, .iarr 2 1 true (.t 17) (.c (.int .i64 0)), [0, 1, 2, 3, 4, 5, 6, 7, 8, 9], none⟩,
           ⟨none, .st 1 (.t 91) (.t 89), [11, 9, 7, 0, 1, 2, 3, 4, 5, 6, 8], none⟩])
        (.seq (.live [8, 17]) (.seq (.reg [⟨some 92, .slarr 2 1 true false (.t 17), [], none⟩,
            ⟨some 93, .build [.lit (.slice none 0 0)] [(0, 1, .t 92)], [], none⟩,
            ⟨none, .st 1 (.t 8) (.t 93), [], none⟩,
            ⟨some 9, .mv (.c (.int .i64 0)), [], none⟩])
         .ret))))))))))))))))) }

/-- (*arras/scale.Scale).Lower -/
def ir116 : IFn :=
 { nt := 60, res := [.cell 4 true 1, .t 5],
   body := (.seq (.reg [⟨some 3, .box 1 (.t 1), [], none⟩,
    ⟨some 4, .new (.agg [.lit (.slice none 0 0)]), [], none⟩,
    ⟨some 5, .mv (.c (.int .i64 0)), [], none⟩])
 (.seq (.live [0, 3, 4]) (.seq (.seq (.reg [⟨some 8, .mv (.t 0), [], none⟩,
      ⟨some 9, .bin 2 .eql (.t 8) (.c (.lit (.pointer none))), [], none⟩])
   (.seq (.live [0, 3, 4, 9]) (.cnd (.t 9) (.seq (.reg [⟨some 10, .build [.lit (.slice none 0 0)] [], [], none⟩,
        ⟨none, .st 1 (.t 4) (.t 10), [], none⟩,
        ⟨some 5, .mv (.c (.int .i64 1)), [], none⟩])
     .ret)
    .skip)))
  (.seq (.live [0, 3, 4]) (.seq (.drw [⟨some 12, .mv (.t 0), [], none⟩,
      ⟨some 13, .nilc (.t 12), [0], none⟩,
      ⟨some 14, .fa false 1 4 (.t 13), [1], none⟩,
      ⟨some 15, .ld false 1 (.t 14), [2], none⟩,
      ⟨some 16, .ld true 1 (.t 3), [], none⟩,
      ⟨some 17, .call (.c (.fn (.func 165) [] [])) [.t 15, .t 16], [3, 4], none⟩,
      ⟨some 11, .mv (.t 17), [5], none⟩,
      ⟨some 18, .ext (.t 11) 0, [6], none⟩,
      ⟨some 19, .ext (.t 11) 1, [6], none⟩,
      ⟨some 6, .mv (.t 18), [7, 5, 0, 1, 2, 3, 4, 6], none⟩,
      ⟨some 7, .mv (.t 19), [8, 9, 0, 1, 2, 3, 4, 5, 6, 7], none⟩])
   (.seq (.live [0, 3, 4, 6, 7]) (.seq (.blk 0 (.seq (.reg [⟨some 21, .mv (.t 7), [], none⟩,
         ⟨some 22, .bin 0 .neq (.t 21) (.c (.int .i64 0)), [], none⟩,
         ⟨some 20, .mv (.t 22), [], none⟩])
      (.seq (.live [0, 3, 4, 6, 7, 20]) (.cnd (.t 20) (.seq (.reg [⟨some 23, .build [.lit (.slice none 0 0)] [], [], none⟩,
           ⟨some 24, .mv (.t 7), [], none⟩,
           ⟨none, .st 1 (.t 4) (.t 23), [], none⟩,
           ⟨some 5, .mv (.t 24), [], none⟩])
        .ret)
       (.seq (.reg [⟨some 26, .mv (.t 6), [], none⟩,
           ⟨some 27, .bin 0 .eql (.t 26) (.c (.int .i64 0)), [], none⟩,
           ⟨some 25, .mv (.t 27), [], none⟩])
        (.seq (.live [0, 3, 4, 6, 25]) (.cnd (.t 25) (.seq (.reg [⟨some 28, .build [.lit (.slice none 0 0)] [], [], none⟩,
             ⟨none, .st 1 (.t 4) (.t 28), [], none⟩,
             ⟨some 5, .mv (.c (.int .i64 10)), [], none⟩])
          .ret)
         .skip)))))))
    (.seq (.live [0, 3, 4, 6]) (.seq (.drw [⟨some 29, .ld true 1 (.t 3), [], none⟩,
        ⟨some 30, .mv (.t 0), [], none⟩,
        ⟨some 31, .nilc (.t 30), [1], none⟩,
        ⟨some 32, .fa true 4 0 (.t 31), [2], none⟩,
        ⟨some 33, .fa false 1 2 (.t 32), [3], none⟩,
        ⟨some 34, .ld false 1 (.t 33), [4], none⟩,
        ⟨some 35, .mv (.t 6), [], none⟩,
        ⟨some 36, .bin 0 .add (.t 35) (.c (.int .i64 1)), [6], none⟩,
        ⟨some 37, .slc 1 (.t 34) none (some (.t 36)) none, [5, 7], none⟩,
        ⟨some 38, .mv (.t 0), [], none⟩,
        ⟨some 39, .nilc (.t 38), [9], none⟩,
        ⟨some 40, .fa true 4 0 (.t 39), [10], none⟩,
        ⟨some 41, .fa false 1 2 (.t 40), [11], none⟩,
        ⟨some 42, .ld false 1 (.t 41), [12], none⟩,
        ⟨some 43, .mv (.t 6), [], none⟩,
        ⟨some 44, .slc 1 (.t 42) none (some (.t 43)) none, [13, 14], none⟩,
        ⟨some 45, .bsl true 1 (.int .u64 0) 1 [(0, .c (.int .u64 1))], [], none⟩,
        ⟨some 46, .mv (.t 0), [], none⟩,
        ⟨some 47, .nilc (.t 46), [17], none⟩,
        ⟨some 48, .fa true 4 0 (.t 47), [18], none⟩,
        ⟨some 49, .fa false 1 2 (.t 48), [19], none⟩,
        ⟨some 50, .ld false 1 (.t 49), [20], none⟩,
        ⟨some 51, .mv (.t 6), [], none⟩,
        ⟨some 52, .ia 1 (.t 50) (.t 51), [21, 22], none⟩,
        ⟨some 53, .ld false 1 (.t 52), [23], none⟩,
        ⟨some 54, .bsl true 1 (.int .u64 0) 1 [(0, .t 53)], [24], none⟩,
        ⟨some 55, .build [.lit (.slice none 0 0), .lit (.slice none 0 0)] [(0, 1, .t 45), (1, 1, .t 54)], [16, 25], none⟩,
        ⟨some 56, .mkfn (.func 168) [.t 55] [], [26], none⟩,
        ⟨some 57, .call (.c (.fn (.func 166) [] [])) [.t 29, .t 37, .t 44, .t 56], [0, 8, 15, 27], none⟩,
        ⟨some 58, .ext (.t 57) 0, [28], none⟩,
        ⟨some 59, .ext (.t 57) 1, [28], none⟩,
        ⟨none, .st 1 (.t 4) (.t 58), [29, 28, 0, 1, 2, 3, 4, 5, 6, 7, 8, 9, 10, 11, 12, 13, 14, 15, 16, 17, 18, 19, 20, 21, 22, 23, 24, 25, 26, 27, 30], none⟩,
        ⟨some 5, .mv (.t 59), [30, 31, 0, 1, 2, 3, 4, 5, 6, 7, 8, 9, 10, 11, 12, 13, 14, 15, 16, 17, 18, 19, 20, 21, 22, 23, 24, 25, 26, 27, 28, 29], none⟩])
     .ret))))))))) }

/-- (*arras/eval.Eval).Lower -/
def ir43 : IFn :=
 { nt := 28, res := [.cell 4 true 1, .t 5],
   body := (.seq (.reg [⟨some 3, .box 1 (.t 1), [], none⟩,
    ⟨some 4, .new (.agg [.lit (.slice none 0 0)]), [], none⟩,
    ⟨some 5, .mv (.c (.int .i64 0)), [], none⟩])
 (.seq (.live [0, 3, 4]) (.seq (.seq (.reg [⟨some 9, .mv (.t 0), [], none⟩,
      ⟨some 10, .ld true 1 (.t 3), [], none⟩,
      ⟨some 11, .bsl false 1 (.agg [.lit (.slice none 0 0)]) 1 [(0, .t 10)], [], none⟩,
      ⟨some 12, .call (.c (.fn (.func 58) [] [])) [.t 9, .t 11], [], none⟩,
      ⟨some 8, .mv (.t 12), [], none⟩,
      ⟨some 13, .ext (.t 8) 0, [], none⟩,
      ⟨some 14, .ext (.t 8) 1, [], none⟩,
      ⟨some 6, .mv (.t 13), [], none⟩,
      ⟨some 7, .mv (.t 14), [], none⟩])
   (.seq (.live [0, 3, 4, 7]) (.seq (.reg [⟨some 15, .mv (.t 7), [], none⟩,
       ⟨some 16, .bin 0 .neq (.t 15) (.c (.int .i64 0)), [], none⟩])
    (.seq (.live [0, 3, 4, 7, 16]) (.cnd (.t 16) (.seq (.reg [⟨some 17, .build [.lit (.slice none 0 0)] [], [], none⟩,
         ⟨some 18, .mv (.t 7), [], none⟩,
         ⟨none, .st 1 (.t 4) (.t 17), [], none⟩,
         ⟨some 5, .mv (.t 18), [], none⟩])
      .ret)
     .skip)))))
  (.seq (.live [0, 3, 4]) (.seq (.drw [⟨some 19, .ld true 1 (.t 3), [], none⟩,
      ⟨some 20, .mv (.t 0), [], none⟩,
      ⟨some 21, .nilc (.t 20), [1], none⟩,
      ⟨some 22, .fa false 1 5 (.t 21), [2], none⟩,
      ⟨some 23, .ld false 1 (.t 22), [3], none⟩,
      ⟨some 24, .mkfn (.func 116) [.t 23] [], [4], none⟩,
      ⟨some 25, .call (.c (.fn (.func 95) [] [])) [.t 19, .t 24], [0, 5], none⟩,
      ⟨some 26, .ext (.t 25) 0, [6], none⟩,
      ⟨some 27, .ext (.t 25) 1, [6], none⟩,
      ⟨none, .st 1 (.t 4) (.t 26), [7, 6, 0, 1, 2, 3, 4, 5, 8], none⟩,
      ⟨some 5, .mv (.t 27), [8, 9, 0, 1, 2, 3, 4, 5, 6, 7], none⟩])
   .ret))))) }

/-- arras/arraslaw13.EvalNil -/
def ir10 : IFn :=
 { nt := 94, res := [.t 4],
   body := (.seq (.reg [⟨some 2, .box 1 (.t 0), [], none⟩,
    ⟨some 3, .box 2 (.t 1), [], none⟩,
    ⟨some 4, .mv (.c (.bool false)), [], none⟩])
 (.seq (.live [2, 3, 71, 72, 75, 76, 79, 80, 83, 84, 87, 88, 91, 92]) (.seq (.seq (.reg [⟨some 20, .call (.c (.fn (.func 11) [] [])) [], [], none⟩,
      ⟨some 21, .un .not (.t 20), [], none⟩])
   (.seq (.live [2, 3, 21, 71, 72, 75, 76, 79, 80, 83, 84, 87, 88, 91, 92]) (.cnd (.t 21) (.seq (.reg [⟨some 4, .mv (.c (.bool false)), [], none⟩])
     .ret)
    .skip)))
  (.seq (.live [2, 3, 71, 72, 75, 76, 79, 80, 83, 84, 87, 88, 91, 92]) (.seq (.reg [⟨some 5, .mv (.c (.lit (.pointer none))), [], none⟩])
   (.seq (.live [2, 3, 5, 71, 72, 75, 76, 79, 80, 83, 84, 87, 88, 91, 92]) (.seq (.reg [⟨some 23, .mv (.t 5), [], none⟩,
       ⟨some 24, .ld true 1 (.t 2), [], none⟩,
       ⟨some 25, .ld true 1 (.t 2), [], none⟩,
       ⟨some 26, .call (.c (.fn (.func 16) [] [])) [.t 23, .t 24, .t 25], [], none⟩,
       ⟨some 22, .mv (.t 26), [], none⟩,
       ⟨some 27, .ext (.t 22) 0, [], none⟩,
       ⟨some 28, .ext (.t 22) 1, [], none⟩,
       ⟨some 6, .new (.agg [.lit (.slice none 0 0)]), [], none⟩,
       ⟨none, .st 1 (.t 6) (.t 27), [], none⟩,
       ⟨some 7, .mv (.t 28), [], none⟩])
    (.seq (.live [2, 3, 5, 7, 71, 72, 75, 76, 79, 80, 83, 84, 87, 88, 91, 92]) (.seq (.reg [⟨some 30, .mv (.t 5), [], none⟩,
        ⟨some 31, .ld true 1 (.t 2), [], none⟩,
        ⟨some 32, .call (.c (.fn (.func 17) [] [])) [.t 30, .t 31, .c (.lit (.slice none 0 0))], [], none⟩,
        ⟨some 29, .mv (.t 32), [], none⟩,
        ⟨some 33, .ext (.t 29) 0, [], none⟩,
        ⟨some 34, .ext (.t 29) 1, [], none⟩,
        ⟨some 8, .new (.agg [.lit (.slice none 0 0)]), [], none⟩,
        ⟨none, .st 1 (.t 8) (.t 33), [], none⟩,
        ⟨some 9, .mv (.t 34), [], none⟩])
     (.seq (.live [2, 3, 5, 7, 9, 71, 72, 75, 76, 79, 80, 83, 84, 87, 88, 91, 92]) (.seq (.reg [⟨some 36, .mv (.t 5), [], none⟩,
         ⟨some 37, .ld true 1 (.t 2), [], none⟩,
         ⟨some 38, .call (.c (.fn (.func 29) [] [])) [.t 36, .t 37, .c (.lit (.slice none 0 0))], [], none⟩,
         ⟨some 35, .mv (.t 38), [], none⟩,
         ⟨some 39, .ext (.t 35) 0, [], none⟩,
         ⟨some 40, .ext (.t 35) 1, [], none⟩,
         ⟨some 10, .new (.agg [.lit (.slice none 0 0)]), [], none⟩,
         ⟨none, .st 1 (.t 10) (.t 39), [], none⟩,
         ⟨some 11, .mv (.t 40), [], none⟩])
      (.seq (.live [2, 3, 5, 7, 9, 11, 71, 72, 75, 76, 79, 80, 83, 84, 87, 88, 91, 92]) (.seq (.reg [⟨some 42, .mv (.t 5), [], none⟩,
          ⟨some 43, .ld true 1 (.t 2), [], none⟩,
          ⟨some 44, .ld true 1 (.t 2), [], none⟩,
          ⟨some 45, .call (.c (.fn (.func 28) [] [])) [.t 42, .t 43, .t 44], [], none⟩,
          ⟨some 41, .mv (.t 45), [], none⟩,
          ⟨some 46, .ext (.t 41) 0, [], none⟩,
          ⟨some 47, .ext (.t 41) 1, [], none⟩,
          ⟨some 12, .new (.agg [.lit (.slice none 0 0)]), [], none⟩,
          ⟨none, .st 1 (.t 12) (.t 46), [], none⟩,
          ⟨some 13, .mv (.t 47), [], none⟩])
       (.seq (.live [2, 3, 5, 7, 9, 11, 13, 71, 72, 75, 76, 79, 80, 83, 84, 87, 88, 91, 92]) (.seq (.reg [⟨some 49, .mv (.t 5), [], none⟩,
           ⟨some 50, .ld true 1 (.t 2), [], none⟩,
           ⟨some 51, .ld true 2 (.t 3), [], none⟩,
           ⟨some 52, .call (.c (.fn (.func 33) [] [])) [.t 49, .t 50, .t 51], [], none⟩,
           ⟨some 48, .mv (.t 52), [], none⟩,
           ⟨some 53, .ext (.t 48) 0, [], none⟩,
           ⟨some 54, .ext (.t 48) 1, [], none⟩,
           ⟨some 14, .new (.agg [.lit (.slice none 0 0)]), [], none⟩,
           ⟨none, .st 1 (.t 14) (.t 53), [], none⟩,
           ⟨some 15, .mv (.t 54), [], none⟩])
        (.seq (.live [2, 3, 5, 7, 9, 11, 13, 15, 71, 72, 75, 76, 79, 80, 83, 84, 87, 88, 91, 92]) (.seq (.reg [⟨some 56, .mv (.t 5), [], none⟩,
            ⟨some 57, .ld true 1 (.t 2), [], none⟩,
            ⟨some 58, .ld true 2 (.t 3), [], none⟩,
            ⟨some 59, .call (.c (.fn (.func 39) [] [])) [.t 56, .t 57, .c (.int .i64 1), .t 58], [], none⟩,
            ⟨some 55, .mv (.t 59), [], none⟩,
            ⟨some 60, .ext (.t 55) 0, [], none⟩,
            ⟨some 61, .ext (.t 55) 1, [], none⟩,
            ⟨some 16, .new (.agg [.lit (.slice none 0 0)]), [], none⟩,
            ⟨none, .st 1 (.t 16) (.t 60), [], none⟩,
            ⟨some 17, .mv (.t 61), [], none⟩])
         (.seq (.live [2, 5, 7, 9, 11, 13, 15, 17, 71, 72, 75, 76, 79, 80, 83, 84, 87, 88, 91, 92]) (.seq (.reg [⟨some 63, .mv (.t 5), [], none⟩,
             ⟨some 64, .ld true 1 (.t 2), [], none⟩,
             ⟨some 65, .call (.c (.fn (.func 43) [] [])) [.t 63, .t 64], [], none⟩,
             ⟨some 62, .mv (.t 65), [], none⟩,
             ⟨some 66, .ext (.t 62) 0, [], none⟩,
             ⟨some 67, .ext (.t 62) 1, [], none⟩,
             ⟨some 18, .new (.agg [.lit (.slice none 0 0)]), [], none⟩,
             ⟨none, .st 1 (.t 18) (.t 66), [], none⟩,
             ⟨some 19, .mv (.t 67), [], none⟩])
          (.seq (.live [7, 9, 11, 13, 15, 17, 19, 71, 72, 75, 76, 79, 80, 83, 84, 87, 88, 91, 92]) (.seq (.reg [⟨some 68, .mv (.t 7), [], none⟩,
              ⟨some 69, .bin 0 .eql (.t 68) (.c (.int .i64 1)), [], none⟩,
              ⟨some 70, .mv (.t 69), [], none⟩,
              ⟨some 71, .mv (.t 9), [], some (70, true)⟩,
              ⟨some 72, .bin 0 .eql (.t 71) (.c (.int .i64 1)), [], some (70, true)⟩,
              ⟨some 73, .pick (.t 70) (.t 72) (.c (.bool false)), [], none⟩,
              ⟨some 74, .mv (.t 73), [], none⟩,
              ⟨some 75, .mv (.t 11), [], some (74, true)⟩,
              ⟨some 76, .bin 0 .eql (.t 75) (.c (.int .i64 1)), [], some (74, true)⟩,
              ⟨some 77, .pick (.t 74) (.t 76) (.c (.bool false)), [], none⟩,
              ⟨some 78, .mv (.t 77), [], none⟩,
              ⟨some 79, .mv (.t 13), [], some (78, true)⟩,
              ⟨some 80, .bin 0 .eql (.t 79) (.c (.int .i64 1)), [], some (78, true)⟩,
              ⟨some 81, .pick (.t 78) (.t 80) (.c (.bool false)), [], none⟩,
              ⟨some 82, .mv (.t 81), [], none⟩,
              ⟨some 83, .mv (.t 15), [], some (82, true)⟩,
              ⟨some 84, .bin 0 .eql (.t 83) (.c (.int .i64 1)), [], some (82, true)⟩,
              ⟨some 85, .pick (.t 82) (.t 84) (.c (.bool false)), [], none⟩,
              ⟨some 86, .mv (.t 85), [], none⟩,
              ⟨some 87, .mv (.t 17), [], some (86, true)⟩,
              ⟨some 88, .bin 0 .eql (.t 87) (.c (.int .i64 1)), [], some (86, true)⟩,
              ⟨some 89, .pick (.t 86) (.t 88) (.c (.bool false)), [], none⟩,
              ⟨some 90, .mv (.t 89), [], none⟩,
              ⟨some 91, .mv (.t 19), [], some (90, true)⟩,
              ⟨some 92, .bin 0 .eql (.t 91) (.c (.int .i64 1)), [], some (90, true)⟩,
              ⟨some 93, .pick (.t 90) (.t 92) (.c (.bool false)), [], none⟩,
              ⟨some 4, .mv (.t 93), [], none⟩])
           .ret))))))))))))))))))))) }
def irs : List (Nat × IFn) := [(138, ir138), (65, ir65), (221, ir221), (180, ir180), (225, ir225), (203, ir203), (186, ir186), (200, ir200), (230, ir230), (193, ir193), (228, ir228), (226, ir226), (188, ir188), (222, ir222), (181, ir181), (223, ir223), (185, ir185), (182, ir182), (122, ir122), (137, ir137), (123, ir123), (183, ir183), (120, ir120), (224, ir224), (227, ir227), (189, ir189), (187, ir187), (229, ir229), (190, ir190), (177, ir177), (191, ir191), (192, ir192), (125, ir125), (184, ir184), (121, ir121), (124, ir124), (50, ir50), (51, ir51), (110, ir110), (52, ir52), (13, ir13), (195, ir195), (235, ir235), (214, ir214), (215, ir215), (165, ir165), (196, ir196), (128, ir128), (58, ir58), (129, ir129), (59, ir59), (170, ir170), (130, ir130), (131, ir131), (60, ir60), (16, ir16), (239, ir239), (249, ir249), (246, ir246), (250, ir250), (247, ir247), (240, ir240), (241, ir241), (218, ir218), (219, ir219), (171, ir171), (97, ir97), (139, ir139), (199, ir199), (134, ir134), (140, ir140), (66, ir66), (236, ir236), (238, ir238), (244, ir244), (198, ir198), (248, ir248), (245, ir245), (237, ir237), (216, ir216), (166, ir166), (167, ir167), (136, ir136), (64, ir64), (201, ir201), (202, ir202), (133, ir133), (217, ir217), (168, ir168), (93, ir93), (28, ir28), (86, ir86), (102, ir102), (114, ir114), (49, ir49), (11, ir11), (61, ir61), (132, ir132), (62, ir62), (135, ir135), (63, ir63), (17, ir17), (169, ir169), (94, ir94), (95, ir95), (96, ir96), (29, ir29), (175, ir175), (103, ir103), (104, ir104), (33, ir33), (111, ir111), (39, ir39), (116, ir116), (43, ir43), (10, ir10)]
def globs : Globs := [(0, (.agg [.int .u8 0, .int .u8 1, .int .u8 56, .int .u8 2, .int .u8 57, .int .u8 49, .int .u8 28, .int .u8 3, .int .u8 61, .int .u8 58, .int .u8 42, .int .u8 50, .int .u8 38, .int .u8 29, .int .u8 17, .int .u8 4, .int .u8 62, .int .u8 47, .int .u8 59, .int .u8 36, .int .u8 45, .int .u8 43, .int .u8 51, .int .u8 22, .int .u8 53, .int .u8 39, .int .u8 33, .int .u8 30, .int .u8 24, .int .u8 18, .int .u8 12, .int .u8 5, .int .u8 63, .int .u8 55, .int .u8 48, .int .u8 27, .int .u8 60, .int .u8 41, .int .u8 37, .int .u8 16, .int .u8 46, .int .u8 35, .int .u8 44, .int .u8 21, .int .u8 52, .int .u8 32, .int .u8 23, .int .u8 11, .int .u8 54, .int .u8 26, .int .u8 40, .int .u8 15, .int .u8 34, .int .u8 20, .int .u8 31, .int .u8 10, .int .u8 25, .int .u8 14, .int .u8 19, .int .u8 9, .int .u8 13, .int .u8 8, .int .u8 7, .int .u8 6]))]
def nonflat : List Nat := [138, 65, 137, 123, 192, 125, 184, 121, 124, 50, 51, 52, 13, 195, 58, 49]
def env : Env := { fs := getA irs, sm := fun f args => if f == 197 then add64 args else if f == 231 then sub64 args else none, fl := fun f => !nonflat.contains f }
end Go.AM
