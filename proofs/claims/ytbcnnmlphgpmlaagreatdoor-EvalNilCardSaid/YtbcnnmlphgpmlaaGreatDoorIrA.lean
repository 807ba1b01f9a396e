/-
  This text proves what its parts' remarks say, of the abstract machine (part IrA); no condition stands ahead of the claim's statement.
-/
import Derived.Test.YtbcnnmlphgpmlaaGreatDoorMa

/- The machine's form of functions, printed by program. -/
namespace Go.AM
set_option maxRecDepth 100000
/-- arras/nat.norm -/
def ir138 : IFn :=
 { nt := 21, res := [.t 2],
   body := (.seq (.reg [⟨some 2, .mv (.c (.lit (.slice none 0 0))), [], none⟩])
 (.seq (.live [0, 7, 8, 9, 10, 11, 12, 13]) (.seq (.blk 0 (.loop (.seq (.live [0, 7, 8, 9, 10, 11, 12, 13]) (.seq (.seq (.reg [⟨some 3, .mv (.t 0), [], none⟩,
         ⟨some 4, .len (.t 3), [], none⟩,
         ⟨some 5, .bin 0 .gtr (.t 4) (.c (.int .i64 0)), [], none⟩,
         ⟨some 6, .mv (.t 5), [], none⟩,
         ⟨some 7, .mv (.t 0), [], some (6, true)⟩,
         ⟨some 8, .mv (.t 0), [], some (6, true)⟩,
         ⟨some 9, .len (.t 8), [], some (6, true)⟩,
         ⟨some 10, .bin 0 .sub (.t 9) (.c (.int .i64 1)), [], some (6, true)⟩,
         ⟨some 11, .ia 1 (.t 7) (.t 10), [], some (6, true)⟩,
         ⟨some 12, .ld false 1 (.t 11), [], some (6, true)⟩,
         ⟨some 13, .bin 0 .eql (.t 12) (.c (.int .u64 0)), [], some (6, true)⟩,
         ⟨some 14, .pick (.t 6) (.t 13) (.c (.bool false)), [], none⟩])
      (.seq (.live [0, 7, 8, 9, 10, 11, 12, 13, 14]) (.cnd (.t 14) .skip
       (.exit 0))))
     (.seq (.live [0, 7, 8, 9, 10, 11, 12, 13]) (.blk 1 (.reg [⟨some 15, .mv (.t 0), [], none⟩,
         ⟨some 16, .mv (.t 0), [], none⟩,
         ⟨some 17, .len (.t 16), [], none⟩,
         ⟨some 18, .bin 0 .sub (.t 17) (.c (.int .i64 1)), [], none⟩,
         ⟨some 19, .slc 1 (.t 15) none (some (.t 18)) none, [], none⟩,
         ⟨some 0, .mv (.t 19), [], none⟩])))))))
  (.seq (.live [0]) (.seq (.reg [⟨some 20, .mv (.t 0), [], none⟩,
      ⟨some 2, .mv (.t 20), [], none⟩])
   .ret))))) }

/-- arras/nat.Of -/
def ir65 : IFn :=
 { nt := 6, res := [.t 2],
   body := (.seq (.reg [⟨some 2, .mv (.c (.lit (.slice none 0 0))), [], none⟩])
 (.seq (.live [0]) (.seq (.reg [⟨some 3, .mv (.t 0), [], none⟩,
     ⟨some 4, .bsl true 1 (.int .u64 0) 1 [(0, .t 3)], [], none⟩,
     ⟨some 5, .call (.c (.fn (.func 138) [] [])) [.t 4], [], none⟩,
     ⟨some 2, .mv (.t 5), [], none⟩])
  .ret))) }

/-- arras/param.Row -/
def ir221 : IFn :=
 { nt := 26, res := [.t 2],
   body := (.seq (.reg [⟨some 2, .mv (.c (.int .i64 0)), [], none⟩])
 (.seq (.live [0, 7, 8, 11, 12, 13, 14, 15]) (.seq (.blk 0 (.seq (.reg [⟨some 4, .mv (.t 0), [], none⟩,
       ⟨some 5, .bin 0 .geq (.t 4) (.c (.int .i64 8)), [], none⟩,
       ⟨some 6, .mv (.t 5), [], none⟩,
       ⟨some 7, .mv (.t 0), [], some (6, true)⟩,
       ⟨some 8, .bin 0 .leq (.t 7) (.c (.int .i64 256)), [], some (6, true)⟩,
       ⟨some 9, .pick (.t 6) (.t 8) (.c (.bool false)), [], none⟩,
       ⟨some 10, .mv (.t 9), [], none⟩,
       ⟨some 11, .mv (.t 0), [], some (10, true)⟩,
       ⟨some 12, .mv (.t 0), [], some (10, true)⟩,
       ⟨some 13, .bin 0 .sub (.t 12) (.c (.int .i64 1)), [], some (10, true)⟩,
       ⟨some 14, .bin 0 .and (.t 11) (.t 13), [], some (10, true)⟩,
       ⟨some 15, .bin 0 .eql (.t 14) (.c (.int .i64 0)), [], some (10, true)⟩,
       ⟨some 16, .pick (.t 10) (.t 15) (.c (.bool false)), [], none⟩,
       ⟨some 3, .mv (.t 16), [], none⟩])
    (.seq (.live [0, 3]) (.cnd (.t 3) (.seq (.reg [⟨some 2, .mv (.c (.int .i64 420)), [], none⟩])
      .ret)
     (.seq (.reg [⟨some 18, .mv (.t 0), [], none⟩,
         ⟨some 19, .bin 0 .eql (.t 18) (.c (.int .i64 1024)), [], none⟩,
         ⟨some 17, .mv (.t 19), [], none⟩])
      (.seq (.live [0, 17]) (.cnd (.t 17) (.seq (.reg [⟨some 2, .mv (.c (.int .i64 27)), [], none⟩])
        .ret)
       (.seq (.reg [⟨some 21, .mv (.t 0), [], none⟩,
           ⟨some 22, .bin 0 .eql (.t 21) (.c (.int .i64 2048)), [], none⟩,
           ⟨some 20, .mv (.t 22), [], none⟩])
        (.seq (.live [0, 20]) (.cnd (.t 20) (.seq (.reg [⟨some 2, .mv (.c (.int .i64 54)), [], none⟩])
          .ret)
         (.seq (.reg [⟨some 24, .mv (.t 0), [], none⟩,
             ⟨some 25, .bin 0 .eql (.t 24) (.c (.int .i64 4096)), [], none⟩,
             ⟨some 23, .mv (.t 25), [], none⟩])
          (.seq (.live [23]) (.cnd (.t 23) (.seq (.reg [⟨some 2, .mv (.c (.int .i64 109)), [], none⟩])
            .ret)
           .skip)))))))))))))
  (.seq (.live []) (.seq (.reg [⟨some 2, .mv (.c (.int .i64 0)), [], none⟩])
   .ret))))) }

/-- (arras/param.asked).sized -/
def ir180 : IFn :=
 { nt := 20, res := [.t 2],
   body := (.seq (.reg [⟨some 1, .box 4 (.t 0), [], none⟩,
    ⟨some 2, .mv (.c (.bool false)), [], none⟩])
 (.seq (.live [1, 9, 10, 11, 12, 15, 16, 17, 18]) (.seq (.reg [⟨some 3, .fa true 4 0 (.t 1), [], none⟩,
     ⟨some 4, .fa false 1 0 (.t 3), [], none⟩,
     ⟨some 5, .ld false 1 (.t 4), [], none⟩,
     ⟨some 6, .call (.c (.fn (.func 221) [] [])) [.t 5], [], none⟩,
     ⟨some 7, .bin 0 .gtr (.t 6) (.c (.int .i64 0)), [], none⟩,
     ⟨some 8, .mv (.t 7), [], none⟩,
     ⟨some 9, .fa true 4 0 (.t 1), [], some (8, true)⟩,
     ⟨some 10, .fa false 1 3 (.t 9), [], some (8, true)⟩,
     ⟨some 11, .ld false 1 (.t 10), [], some (8, true)⟩,
     ⟨some 12, .bin 0 .geq (.t 11) (.c (.int .i64 1)), [], some (8, true)⟩,
     ⟨some 13, .pick (.t 8) (.t 12) (.c (.bool false)), [], none⟩,
     ⟨some 14, .mv (.t 13), [], none⟩,
     ⟨some 15, .fa true 4 0 (.t 1), [], some (14, true)⟩,
     ⟨some 16, .fa false 1 3 (.t 15), [], some (14, true)⟩,
     ⟨some 17, .ld false 1 (.t 16), [], some (14, true)⟩,
     ⟨some 18, .bin 0 .leq (.t 17) (.c (.int .i64 16)), [], some (14, true)⟩,
     ⟨some 19, .pick (.t 14) (.t 18) (.c (.bool false)), [], none⟩,
     ⟨some 2, .mv (.t 19), [], none⟩])
  .ret))) }

/-- math/bits.TrailingZeros64 -/
def ir225 : IFn :=
 { nt := 14, res := [.t 2],
   body := (.seq (.reg [⟨some 2, .mv (.c (.int .i64 0)), [], none⟩])
 (.seq (.live [0]) (.seq (.seq (.reg [⟨some 3, .mv (.t 0), [], none⟩,
      ⟨some 4, .bin 0 .eql (.t 3) (.c (.int .u64 0)), [], none⟩])
   (.seq (.live [0, 4]) (.cnd (.t 4) (.seq (.reg [⟨some 2, .mv (.c (.int .i64 64)), [], none⟩])
     .ret)
    .skip)))
  (.seq (.live [0]) (.seq (.reg [⟨some 5, .mv (.t 0), [], none⟩,
      ⟨some 6, .mv (.t 0), [], none⟩,
      ⟨some 7, .un .neg (.t 6), [], none⟩,
      ⟨some 8, .bin 0 .and (.t 5) (.t 7), [], none⟩,
      ⟨some 9, .bin 0 .mul (.t 8) (.c (.int .u64 285870213051353865)), [], none⟩,
      ⟨some 10, .bin 0 .shr (.t 9) (.c (.int .u64 58)), [], none⟩,
      ⟨some 11, .iarr 64 1 false (.c (.pt false (.agg [.int .u8 0, .int .u8 1, .int .u8 56, .int .u8 2, .int .u8 57, .int .u8 49, .int .u8 28, .int .u8 3, .int .u8 61, .int .u8 58, .int .u8 42, .int .u8 50, .int .u8 38, .int .u8 29, .int .u8 17, .int .u8 4, .int .u8 62, .int .u8 47, .int .u8 59, .int .u8 36, .int .u8 45, .int .u8 43, .int .u8 51, .int .u8 22, .int .u8 53, .int .u8 39, .int .u8 33, .int .u8 30, .int .u8 24, .int .u8 18, .int .u8 12, .int .u8 5, .int .u8 63, .int .u8 55, .int .u8 48, .int .u8 27, .int .u8 60, .int .u8 41, .int .u8 37, .int .u8 16, .int .u8 46, .int .u8 35, .int .u8 44, .int .u8 21, .int .u8 52, .int .u8 32, .int .u8 23, .int .u8 11, .int .u8 54, .int .u8 26, .int .u8 40, .int .u8 15, .int .u8 34, .int .u8 20, .int .u8 31, .int .u8 10, .int .u8 25, .int .u8 14, .int .u8 19, .int .u8 9, .int .u8 13, .int .u8 8, .int .u8 7, .int .u8 6]))) (.t 10), [], none⟩,
      ⟨some 12, .ld false 1 (.t 11), [], none⟩,
      ⟨some 13, .conv .i64 (.t 12), [], none⟩,
      ⟨some 2, .mv (.t 13), [], none⟩])
   .ret))))) }

/-- math/bits.Mul64 -/
def ir203 : IFn :=
 { nt := 51, res := [.t 4, .t 5],
   body := (.seq (.reg [⟨some 4, .mv (.c (.int .u64 0)), [], none⟩,
    ⟨some 5, .mv (.c (.int .u64 0)), [], none⟩])
 (.seq (.live [0, 1]) (.seq (.reg [⟨some 14, .mv (.t 0), [], none⟩,
     ⟨some 15, .bin 0 .and (.t 14) (.c (.int .u64 4294967295)), [], none⟩,
     ⟨some 6, .mv (.t 15), [], none⟩])
  (.seq (.live [0, 1, 6]) (.seq (.reg [⟨some 16, .mv (.t 0), [], none⟩,
      ⟨some 17, .bin 0 .shr (.t 16) (.c (.int .u64 32)), [], none⟩,
      ⟨some 7, .mv (.t 17), [], none⟩])
   (.seq (.live [0, 1, 6, 7]) (.seq (.reg [⟨some 18, .mv (.t 1), [], none⟩,
       ⟨some 19, .bin 0 .and (.t 18) (.c (.int .u64 4294967295)), [], none⟩,
       ⟨some 8, .mv (.t 19), [], none⟩])
    (.seq (.live [0, 1, 6, 7, 8]) (.seq (.reg [⟨some 20, .mv (.t 1), [], none⟩,
        ⟨some 21, .bin 0 .shr (.t 20) (.c (.int .u64 32)), [], none⟩,
        ⟨some 9, .mv (.t 21), [], none⟩])
     (.seq (.live [0, 1, 6, 7, 8, 9]) (.seq (.reg [⟨some 22, .mv (.t 6), [], none⟩,
         ⟨some 23, .mv (.t 8), [], none⟩,
         ⟨some 24, .bin 0 .mul (.t 22) (.t 23), [], none⟩,
         ⟨some 10, .mv (.t 24), [], none⟩])
      (.seq (.live [0, 1, 6, 7, 8, 9, 10]) (.seq (.reg [⟨some 25, .mv (.t 7), [], none⟩,
          ⟨some 26, .mv (.t 8), [], none⟩,
          ⟨some 27, .bin 0 .mul (.t 25) (.t 26), [], none⟩,
          ⟨some 28, .mv (.t 10), [], none⟩,
          ⟨some 29, .bin 0 .shr (.t 28) (.c (.int .u64 32)), [], none⟩,
          ⟨some 30, .bin 0 .add (.t 27) (.t 29), [], none⟩,
          ⟨some 11, .mv (.t 30), [], none⟩])
       (.seq (.live [0, 1, 6, 7, 9, 11]) (.seq (.reg [⟨some 31, .mv (.t 11), [], none⟩,
           ⟨some 32, .bin 0 .and (.t 31) (.c (.int .u64 4294967295)), [], none⟩,
           ⟨some 12, .mv (.t 32), [], none⟩])
        (.seq (.live [0, 1, 6, 7, 9, 11, 12]) (.seq (.reg [⟨some 33, .mv (.t 11), [], none⟩,
            ⟨some 34, .bin 0 .shr (.t 33) (.c (.int .u64 32)), [], none⟩,
            ⟨some 13, .mv (.t 34), [], none⟩])
         (.seq (.live [0, 1, 6, 7, 9, 12, 13]) (.seq (.reg [⟨some 35, .mv (.t 12), [], none⟩,
             ⟨some 36, .mv (.t 6), [], none⟩,
             ⟨some 37, .mv (.t 9), [], none⟩,
             ⟨some 38, .bin 0 .mul (.t 36) (.t 37), [], none⟩,
             ⟨some 39, .bin 0 .add (.t 35) (.t 38), [], none⟩,
             ⟨some 12, .mv (.t 39), [], none⟩])
          (.seq (.live [0, 1, 7, 9, 12, 13]) (.seq (.reg [⟨some 40, .mv (.t 7), [], none⟩,
              ⟨some 41, .mv (.t 9), [], none⟩,
              ⟨some 42, .bin 0 .mul (.t 40) (.t 41), [], none⟩,
              ⟨some 43, .mv (.t 13), [], none⟩,
              ⟨some 44, .bin 0 .add (.t 42) (.t 43), [], none⟩,
              ⟨some 45, .mv (.t 12), [], none⟩,
              ⟨some 46, .bin 0 .shr (.t 45) (.c (.int .u64 32)), [], none⟩,
              ⟨some 47, .bin 0 .add (.t 44) (.t 46), [], none⟩,
              ⟨some 4, .mv (.t 47), [], none⟩])
           (.seq (.live [0, 1, 4]) (.seq (.reg [⟨some 48, .mv (.t 0), [], none⟩,
               ⟨some 49, .mv (.t 1), [], none⟩,
               ⟨some 50, .bin 0 .mul (.t 48) (.t 49), [], none⟩,
               ⟨some 5, .mv (.t 50), [], none⟩])
            .ret))))))))))))))))))))))) }

/-- math/bits.Len64 -/
def ir186 : IFn :=
 { nt := 25, res := [.t 2],
   body := (.seq (.reg [⟨some 2, .mv (.c (.int .i64 0)), [], none⟩])
 (.seq (.live [0, 2]) (.seq (.seq (.reg [⟨some 3, .mv (.t 0), [], none⟩,
      ⟨some 4, .bin 0 .geq (.t 3) (.c (.int .u64 4294967296)), [], none⟩])
   (.seq (.live [0, 2, 4]) (.cnd (.t 4) (.seq (.reg [⟨some 5, .mv (.t 0), [], none⟩,
        ⟨some 6, .bin 0 .shr (.t 5) (.c (.int .u64 32)), [], none⟩,
        ⟨some 0, .mv (.t 6), [], none⟩])
     (.seq (.live [0]) (.reg [⟨some 2, .mv (.c (.int .i64 32)), [], none⟩])))
    .skip)))
  (.seq (.live [0, 2]) (.seq (.seq (.reg [⟨some 7, .mv (.t 0), [], none⟩,
       ⟨some 8, .bin 0 .geq (.t 7) (.c (.int .u64 65536)), [], none⟩])
    (.seq (.live [0, 2, 8]) (.cnd (.t 8) (.seq (.reg [⟨some 9, .mv (.t 0), [], none⟩,
         ⟨some 10, .bin 0 .shr (.t 9) (.c (.int .u64 16)), [], none⟩,
         ⟨some 0, .mv (.t 10), [], none⟩])
      (.seq (.live [0, 2]) (.reg [⟨some 11, .mv (.t 2), [], none⟩,
         ⟨some 12, .bin 0 .add (.t 11) (.c (.int .i64 16)), [], none⟩,
         ⟨some 2, .mv (.t 12), [], none⟩])))
     .skip)))
   (.seq (.live [0, 2]) (.seq (.seq (.reg [⟨some 13, .mv (.t 0), [], none⟩,
        ⟨some 14, .bin 0 .geq (.t 13) (.c (.int .u64 256)), [], none⟩])
     (.seq (.live [0, 2, 14]) (.cnd (.t 14) (.seq (.reg [⟨some 15, .mv (.t 0), [], none⟩,
          ⟨some 16, .bin 0 .shr (.t 15) (.c (.int .u64 8)), [], none⟩,
          ⟨some 0, .mv (.t 16), [], none⟩])
       (.seq (.live [0, 2]) (.reg [⟨some 17, .mv (.t 2), [], none⟩,
          ⟨some 18, .bin 0 .add (.t 17) (.c (.int .i64 8)), [], none⟩,
          ⟨some 2, .mv (.t 18), [], none⟩])))
      .skip)))
    (.seq (.live [0, 2]) (.seq (.reg [⟨some 19, .mv (.t 2), [], none⟩,
        ⟨some 20, .mv (.t 0), [], none⟩,
        ⟨some 21, .conv .u8 (.t 20), [], none⟩,
        ⟨some 22, .sidx (.c (.lit (.string ⟨#[0, 1, 2, 2, 3, 3, 3, 3, 4, 4, 4, 4, 4, 4, 4, 4, 5, 5, 5, 5, 5, 5, 5, 5, 5, 5, 5, 5, 5, 5, 5, 5, 6, 6, 6, 6, 6, 6, 6, 6, 6, 6, 6, 6, 6, 6, 6, 6, 6, 6, 6, 6, 6, 6, 6, 6, 6, 6, 6, 6, 6, 6, 6, 6, 7, 7, 7, 7, 7, 7, 7, 7, 7, 7, 7, 7, 7, 7, 7, 7, 7, 7, 7, 7, 7, 7, 7, 7, 7, 7, 7, 7, 7, 7, 7, 7, 7, 7, 7, 7, 7, 7, 7, 7, 7, 7, 7, 7, 7, 7, 7, 7, 7, 7, 7, 7, 7, 7, 7, 7, 7, 7, 7, 7, 7, 7, 7, 7, 8, 8, 8, 8, 8, 8, 8, 8, 8, 8, 8, 8, 8, 8, 8, 8, 8, 8, 8, 8, 8, 8, 8, 8, 8, 8, 8, 8, 8, 8, 8, 8, 8, 8, 8, 8, 8, 8, 8, 8, 8, 8, 8, 8, 8, 8, 8, 8, 8, 8, 8, 8, 8, 8, 8, 8, 8, 8, 8, 8, 8, 8, 8, 8, 8, 8, 8, 8, 8, 8, 8, 8, 8, 8, 8, 8, 8, 8, 8, 8, 8, 8, 8, 8, 8, 8, 8, 8, 8, 8, 8, 8, 8, 8, 8, 8, 8, 8, 8, 8, 8, 8, 8, 8, 8, 8, 8, 8, 8, 8, 8, 8, 8, 8, 8, 8, 8, 8, 8, 8, 8, 8, 8, 8, 8, 8, 8, 8]⟩))) (.t 21), [], none⟩,
        ⟨some 23, .conv .i64 (.t 22), [], none⟩,
        ⟨some 24, .bin 0 .add (.t 19) (.t 23), [], none⟩,
        ⟨some 2, .mv (.t 24), [], none⟩])
     .ret))))))))) }

/-- math/bits.LeadingZeros64 -/
def ir200 : IFn :=
 { nt := 6, res := [.t 2],
   body := (.seq (.reg [⟨some 2, .mv (.c (.int .i64 0)), [], none⟩])
 (.seq (.live [0]) (.seq (.reg [⟨some 3, .mv (.t 0), [], none⟩,
     ⟨some 4, .call (.c (.fn (.func 186) [] [])) [.t 3], [], none⟩,
     ⟨some 5, .bin 0 .sub (.c (.int .i64 64)) (.t 4), [], none⟩,
     ⟨some 2, .mv (.t 5), [], none⟩])
  .ret))) }

/-- math/bits.Div64 -/
def ir230 : IFn :=
 { nt := 135, res := [.t 6, .t 7],
   body := (.seq (.reg [⟨some 6, .mv (.c (.int .u64 0)), [], none⟩,
    ⟨some 7, .mv (.c (.int .u64 0)), [], none⟩])
 (.seq (.live [0, 1, 2, 70, 71, 72, 73, 74, 75, 76, 77, 105, 106, 107, 108, 109, 110, 111, 112]) (.seq (.seq (.reg [⟨some 19, .mv (.t 2), [], none⟩,
      ⟨some 20, .bin 0 .eql (.t 19) (.c (.int .u64 0)), [], none⟩])
   (.seq (.live [0, 1, 2, 20, 70, 71, 72, 73, 74, 75, 76, 77, 105, 106, 107, 108, 109, 110, 111, 112]) (.cnd (.t 20) (.reg [⟨some 21, .bad, [], none⟩,
       ⟨none, .bad, [], none⟩])
    .skip)))
  (.seq (.live [0, 1, 2, 70, 71, 72, 73, 74, 75, 76, 77, 105, 106, 107, 108, 109, 110, 111, 112]) (.seq (.seq (.reg [⟨some 22, .mv (.t 2), [], none⟩,
       ⟨some 23, .mv (.t 0), [], none⟩,
       ⟨some 24, .bin 0 .leq (.t 22) (.t 23), [], none⟩])
    (.seq (.live [0, 1, 2, 24, 70, 71, 72, 73, 74, 75, 76, 77, 105, 106, 107, 108, 109, 110, 111, 112]) (.cnd (.t 24) (.reg [⟨some 25, .bad, [], none⟩,
        ⟨none, .bad, [], none⟩])
     .skip)))
   (.seq (.live [0, 1, 2, 70, 71, 72, 73, 74, 75, 76, 77, 105, 106, 107, 108, 109, 110, 111, 112]) (.seq (.seq (.reg [⟨some 26, .mv (.t 0), [], none⟩,
        ⟨some 27, .bin 0 .eql (.t 26) (.c (.int .u64 0)), [], none⟩])
     (.seq (.live [0, 1, 2, 27, 70, 71, 72, 73, 74, 75, 76, 77, 105, 106, 107, 108, 109, 110, 111, 112]) (.cnd (.t 27) (.seq (.drw [⟨some 28, .mv (.t 1), [], none⟩,
          ⟨some 29, .mv (.t 2), [], none⟩,
          ⟨some 30, .bin 0 .quo (.t 28) (.t 29), [0, 1], none⟩,
          ⟨some 31, .mv (.t 1), [], none⟩,
          ⟨some 32, .mv (.t 2), [], none⟩,
          ⟨some 33, .bin 0 .rem (.t 31) (.t 32), [3, 4], none⟩,
          ⟨some 6, .mv (.t 30), [2, 0, 1], none⟩,
          ⟨some 7, .mv (.t 33), [5, 6, 0, 1, 2, 3, 4], none⟩])
       .ret)
      .skip)))
    (.seq (.live [0, 1, 2, 70, 71, 72, 73, 74, 75, 76, 77, 105, 106, 107, 108, 109, 110, 111, 112]) (.seq (.reg [⟨some 34, .mv (.t 2), [], none⟩,
        ⟨some 35, .call (.c (.fn (.func 200) [] [])) [.t 34], [], none⟩,
        ⟨some 36, .conv .u64 (.t 35), [], none⟩,
        ⟨some 8, .mv (.t 36), [], none⟩])
     (.seq (.live [0, 1, 2, 8, 70, 71, 72, 73, 74, 75, 76, 77, 105, 106, 107, 108, 109, 110, 111, 112]) (.seq (.reg [⟨some 37, .mv (.t 2), [], none⟩,
         ⟨some 38, .mv (.t 8), [], none⟩,
         ⟨some 39, .bin 0 .shl (.t 37) (.t 38), [], none⟩,
         ⟨some 2, .mv (.t 39), [], none⟩])
      (.seq (.live [0, 1, 2, 8, 70, 71, 72, 73, 74, 75, 76, 77, 105, 106, 107, 108, 109, 110, 111, 112]) (.seq (.reg [⟨some 40, .mv (.t 2), [], none⟩,
          ⟨some 41, .bin 0 .shr (.t 40) (.c (.int .u64 32)), [], none⟩,
          ⟨some 9, .mv (.t 41), [], none⟩])
       (.seq (.live [0, 1, 2, 8, 9, 70, 71, 72, 73, 74, 75, 76, 77, 105, 106, 107, 108, 109, 110, 111, 112]) (.seq (.reg [⟨some 42, .mv (.t 2), [], none⟩,
           ⟨some 43, .bin 0 .and (.t 42) (.c (.int .u64 4294967295)), [], none⟩,
           ⟨some 10, .mv (.t 43), [], none⟩])
        (.seq (.live [0, 1, 2, 8, 9, 10, 70, 71, 72, 73, 74, 75, 76, 77, 105, 106, 107, 108, 109, 110, 111, 112]) (.seq (.reg [⟨some 44, .mv (.t 0), [], none⟩,
            ⟨some 45, .mv (.t 8), [], none⟩,
            ⟨some 46, .bin 0 .shl (.t 44) (.t 45), [], none⟩,
            ⟨some 47, .mv (.t 1), [], none⟩,
            ⟨some 48, .mv (.t 8), [], none⟩,
            ⟨some 49, .bin 0 .sub (.c (.int .u64 64)) (.t 48), [], none⟩,
            ⟨some 50, .bin 0 .shr (.t 47) (.t 49), [], none⟩,
            ⟨some 51, .bin 0 .or (.t 46) (.t 50), [], none⟩,
            ⟨some 11, .mv (.t 51), [], none⟩])
         (.seq (.live [1, 2, 8, 9, 10, 11, 70, 71, 72, 73, 74, 75, 76, 77, 105, 106, 107, 108, 109, 110, 111, 112]) (.seq (.reg [⟨some 52, .mv (.t 1), [], none⟩,
             ⟨some 53, .mv (.t 8), [], none⟩,
             ⟨some 54, .bin 0 .shl (.t 52) (.t 53), [], none⟩,
             ⟨some 12, .mv (.t 54), [], none⟩])
          (.seq (.live [2, 8, 9, 10, 11, 12, 70, 71, 72, 73, 74, 75, 76, 77, 105, 106, 107, 108, 109, 110, 111, 112]) (.seq (.reg [⟨some 55, .mv (.t 12), [], none⟩,
              ⟨some 56, .bin 0 .shr (.t 55) (.c (.int .u64 32)), [], none⟩,
              ⟨some 13, .mv (.t 56), [], none⟩])
           (.seq (.live [2, 8, 9, 10, 11, 12, 13, 70, 71, 72, 73, 74, 75, 76, 77, 105, 106, 107, 108, 109, 110, 111, 112]) (.seq (.reg [⟨some 57, .mv (.t 12), [], none⟩,
               ⟨some 58, .bin 0 .and (.t 57) (.c (.int .u64 4294967295)), [], none⟩,
               ⟨some 14, .mv (.t 58), [], none⟩])
            (.seq (.live [2, 8, 9, 10, 11, 13, 14, 70, 71, 72, 73, 74, 75, 76, 77, 105, 106, 107, 108, 109, 110, 111, 112]) (.seq (.reg [⟨some 59, .mv (.t 11), [], none⟩,
                ⟨some 60, .mv (.t 9), [], none⟩,
                ⟨some 61, .bin 0 .quo (.t 59) (.t 60), [], none⟩,
                ⟨some 15, .mv (.t 61), [], none⟩])
             (.seq (.live [2, 8, 9, 10, 11, 13, 14, 15, 70, 71, 72, 73, 74, 75, 76, 77, 105, 106, 107, 108, 109, 110, 111, 112]) (.seq (.reg [⟨some 62, .mv (.t 11), [], none⟩,
                 ⟨some 63, .mv (.t 15), [], none⟩,
                 ⟨some 64, .mv (.t 9), [], none⟩,
                 ⟨some 65, .bin 0 .mul (.t 63) (.t 64), [], none⟩,
                 ⟨some 66, .bin 0 .sub (.t 62) (.t 65), [], none⟩,
                 ⟨some 16, .mv (.t 66), [], none⟩])
              (.seq (.live [2, 8, 9, 10, 11, 13, 14, 15, 16, 70, 71, 72, 73, 74, 75, 76, 77, 105, 106, 107, 108, 109, 110, 111, 112]) (.seq (.blk 0 (.loop (.seq (.live [2, 8, 9, 10, 11, 13, 14, 15, 16, 70, 71, 72, 73, 74, 75, 76, 77, 105, 106, 107, 108, 109, 110, 111, 112]) (.seq (.seq (.reg [⟨some 67, .mv (.t 15), [], none⟩,
                      ⟨some 68, .bin 0 .geq (.t 67) (.c (.int .u64 4294967296)), [], none⟩,
                      ⟨some 69, .mv (.t 68), [], none⟩,
                      ⟨some 70, .mv (.t 15), [], some (69, false)⟩,
                      ⟨some 71, .mv (.t 10), [], some (69, false)⟩,
                      ⟨some 72, .bin 0 .mul (.t 70) (.t 71), [], some (69, false)⟩,
                      ⟨some 73, .mv (.t 16), [], some (69, false)⟩,
                      ⟨some 74, .bin 0 .mul (.c (.int .u64 4294967296)) (.t 73), [], some (69, false)⟩,
                      ⟨some 75, .mv (.t 13), [], some (69, false)⟩,
                      ⟨some 76, .bin 0 .add (.t 74) (.t 75), [], some (69, false)⟩,
                      ⟨some 77, .bin 0 .gtr (.t 72) (.t 76), [], some (69, false)⟩,
                      ⟨some 78, .pick (.t 69) (.c (.bool true)) (.t 77), [], none⟩])
                   (.seq (.live [2, 8, 9, 10, 11, 13, 14, 15, 16, 70, 71, 72, 73, 74, 75, 76, 77, 78, 105, 106, 107, 108, 109, 110, 111, 112]) (.cnd (.t 78) .skip
                    (.exit 0))))
                  (.seq (.live [2, 8, 9, 10, 11, 13, 14, 15, 16, 70, 71, 72, 73, 74, 75, 76, 77, 105, 106, 107, 108, 109, 110, 111, 112]) (.blk 1 (.seq (.reg [⟨some 79, .mv (.t 15), [], none⟩,
                       ⟨some 80, .bin 0 .sub (.t 79) (.c (.int .u64 1)), [], none⟩,
                       ⟨some 15, .mv (.t 80), [], none⟩])
                    (.seq (.live [2, 8, 9, 10, 11, 13, 14, 15, 16, 70, 71, 72, 73, 74, 75, 76, 77, 105, 106, 107, 108, 109, 110, 111, 112]) (.seq (.reg [⟨some 81, .mv (.t 16), [], none⟩,
                        ⟨some 82, .mv (.t 9), [], none⟩,
                        ⟨some 83, .bin 0 .add (.t 81) (.t 82), [], none⟩,
                        ⟨some 16, .mv (.t 83), [], none⟩])
                     (.seq (.live [2, 8, 9, 10, 11, 13, 14, 15, 16, 70, 71, 72, 73, 74, 75, 76, 77, 105, 106, 107, 108, 109, 110, 111, 112]) (.seq (.reg [⟨some 84, .mv (.t 16), [], none⟩,
                         ⟨some 85, .bin 0 .geq (.t 84) (.c (.int .u64 4294967296)), [], none⟩])
                      (.seq (.live [2, 8, 9, 10, 11, 13, 14, 15, 16, 70, 71, 72, 73, 74, 75, 76, 77, 85, 105, 106, 107, 108, 109, 110, 111, 112]) (.cnd (.t 85) (.exit 0)
                       .skip)))))))))))))
               (.seq (.live [2, 8, 9, 10, 11, 13, 14, 15, 105, 106, 107, 108, 109, 110, 111, 112]) (.seq (.reg [⟨some 86, .mv (.t 11), [], none⟩,
                   ⟨some 87, .bin 0 .mul (.t 86) (.c (.int .u64 4294967296)), [], none⟩,
                   ⟨some 88, .mv (.t 13), [], none⟩,
                   ⟨some 89, .bin 0 .add (.t 87) (.t 88), [], none⟩,
                   ⟨some 90, .mv (.t 15), [], none⟩,
                   ⟨some 91, .mv (.t 2), [], none⟩,
                   ⟨some 92, .bin 0 .mul (.t 90) (.t 91), [], none⟩,
                   ⟨some 93, .bin 0 .sub (.t 89) (.t 92), [], none⟩,
                   ⟨some 17, .mv (.t 93), [], none⟩])
                (.seq (.live [2, 8, 9, 10, 14, 15, 17, 105, 106, 107, 108, 109, 110, 111, 112]) (.seq (.reg [⟨some 94, .mv (.t 17), [], none⟩,
                    ⟨some 95, .mv (.t 9), [], none⟩,
                    ⟨some 96, .bin 0 .quo (.t 94) (.t 95), [], none⟩,
                    ⟨some 18, .mv (.t 96), [], none⟩])
                 (.seq (.live [2, 8, 9, 10, 14, 15, 17, 18, 105, 106, 107, 108, 109, 110, 111, 112]) (.seq (.reg [⟨some 97, .mv (.t 17), [], none⟩,
                     ⟨some 98, .mv (.t 18), [], none⟩,
                     ⟨some 99, .mv (.t 9), [], none⟩,
                     ⟨some 100, .bin 0 .mul (.t 98) (.t 99), [], none⟩,
                     ⟨some 101, .bin 0 .sub (.t 97) (.t 100), [], none⟩,
                     ⟨some 16, .mv (.t 101), [], none⟩])
                  (.seq (.live [2, 8, 9, 10, 14, 15, 16, 17, 18, 105, 106, 107, 108, 109, 110, 111, 112]) (.seq (.blk 2 (.loop (.seq (.live [2, 8, 9, 10, 14, 15, 16, 17, 18, 105, 106, 107, 108, 109, 110, 111, 112]) (.seq (.seq (.reg [⟨some 102, .mv (.t 18), [], none⟩,
                          ⟨some 103, .bin 0 .geq (.t 102) (.c (.int .u64 4294967296)), [], none⟩,
                          ⟨some 104, .mv (.t 103), [], none⟩,
                          ⟨some 105, .mv (.t 18), [], some (104, false)⟩,
                          ⟨some 106, .mv (.t 10), [], some (104, false)⟩,
                          ⟨some 107, .bin 0 .mul (.t 105) (.t 106), [], some (104, false)⟩,
                          ⟨some 108, .mv (.t 16), [], some (104, false)⟩,
                          ⟨some 109, .bin 0 .mul (.c (.int .u64 4294967296)) (.t 108), [], some (104, false)⟩,
                          ⟨some 110, .mv (.t 14), [], some (104, false)⟩,
                          ⟨some 111, .bin 0 .add (.t 109) (.t 110), [], some (104, false)⟩,
                          ⟨some 112, .bin 0 .gtr (.t 107) (.t 111), [], some (104, false)⟩,
                          ⟨some 113, .pick (.t 104) (.c (.bool true)) (.t 112), [], none⟩])
                       (.seq (.live [2, 8, 9, 10, 14, 15, 16, 17, 18, 105, 106, 107, 108, 109, 110, 111, 112, 113]) (.cnd (.t 113) .skip
                        (.exit 2))))
                      (.seq (.live [2, 8, 9, 10, 14, 15, 16, 17, 18, 105, 106, 107, 108, 109, 110, 111, 112]) (.blk 3 (.seq (.reg [⟨some 114, .mv (.t 18), [], none⟩,
                           ⟨some 115, .bin 0 .sub (.t 114) (.c (.int .u64 1)), [], none⟩,
                           ⟨some 18, .mv (.t 115), [], none⟩])
                        (.seq (.live [2, 8, 9, 10, 14, 15, 16, 17, 18, 105, 106, 107, 108, 109, 110, 111, 112]) (.seq (.reg [⟨some 116, .mv (.t 16), [], none⟩,
                            ⟨some 117, .mv (.t 9), [], none⟩,
                            ⟨some 118, .bin 0 .add (.t 116) (.t 117), [], none⟩,
                            ⟨some 16, .mv (.t 118), [], none⟩])
                         (.seq (.live [2, 8, 9, 10, 14, 15, 16, 17, 18, 105, 106, 107, 108, 109, 110, 111, 112]) (.seq (.reg [⟨some 119, .mv (.t 16), [], none⟩,
                             ⟨some 120, .bin 0 .geq (.t 119) (.c (.int .u64 4294967296)), [], none⟩])
                          (.seq (.live [2, 8, 9, 10, 14, 15, 16, 17, 18, 105, 106, 107, 108, 109, 110, 111, 112, 120]) (.cnd (.t 120) (.exit 2)
                           .skip)))))))))))))
                   (.seq (.live [2, 8, 14, 15, 17, 18]) (.seq (.reg [⟨some 121, .mv (.t 15), [], none⟩,
                       ⟨some 122, .bin 0 .mul (.t 121) (.c (.int .u64 4294967296)), [], none⟩,
                       ⟨some 123, .mv (.t 18), [], none⟩,
                       ⟨some 124, .bin 0 .add (.t 122) (.t 123), [], none⟩,
                       ⟨some 125, .mv (.t 17), [], none⟩,
                       ⟨some 126, .bin 0 .mul (.t 125) (.c (.int .u64 4294967296)), [], none⟩,
                       ⟨some 127, .mv (.t 14), [], none⟩,
                       ⟨some 128, .bin 0 .add (.t 126) (.t 127), [], none⟩,
                       ⟨some 129, .mv (.t 18), [], none⟩,
                       ⟨some 130, .mv (.t 2), [], none⟩,
                       ⟨some 131, .bin 0 .mul (.t 129) (.t 130), [], none⟩,
                       ⟨some 132, .bin 0 .sub (.t 128) (.t 131), [], none⟩,
                       ⟨some 133, .mv (.t 8), [], none⟩,
                       ⟨some 134, .bin 0 .shr (.t 132) (.t 133), [], none⟩,
                       ⟨some 6, .mv (.t 124), [], none⟩,
                       ⟨some 7, .mv (.t 134), [], none⟩])
                    .ret))))))))))))))))))))))))))))))))))))))) }

/-- arras/word.Mul -/
def ir193 : IFn :=
 { nt := 31, res := [.t 6],
   body := (.seq (.reg [⟨some 6, .mv (.c (.int .u64 0)), [], none⟩])
 (.seq (.live [0, 1, 2]) (.seq (.seq (.reg [⟨some 11, .mv (.t 2), [], none⟩,
      ⟨some 12, .bin 0 .eql (.t 11) (.c (.int .u64 0)), [], none⟩])
   (.seq (.live [0, 1, 2, 12]) (.cnd (.t 12) (.seq (.reg [⟨some 6, .mv (.c (.int .u64 0)), [], none⟩])
     .ret)
    .skip)))
  (.seq (.live [0, 1, 2]) (.seq (.drw [⟨some 14, .mv (.t 0), [], none⟩,
      ⟨some 15, .mv (.t 2), [], none⟩,
      ⟨some 16, .bin 0 .rem (.t 14) (.t 15), [0, 1], none⟩,
      ⟨some 17, .mv (.t 1), [], none⟩,
      ⟨some 18, .mv (.t 2), [], none⟩,
      ⟨some 19, .bin 0 .rem (.t 17) (.t 18), [3, 4], none⟩,
      ⟨some 20, .call (.c (.fn (.func 203) [] [])) [.t 16, .t 19], [2, 5], none⟩,
      ⟨some 13, .mv (.t 20), [6], none⟩,
      ⟨some 21, .ext (.t 13) 0, [7], none⟩,
      ⟨some 22, .ext (.t 13) 1, [7], none⟩,
      ⟨some 7, .mv (.t 21), [8, 6, 0, 1, 2, 3, 4, 5, 7], none⟩,
      ⟨some 8, .mv (.t 22), [9, 10, 0, 1, 2, 3, 4, 5, 6, 7, 8], none⟩])
   (.seq (.live [2, 7, 8]) (.seq (.reg [⟨some 24, .mv (.t 7), [], none⟩,
       ⟨some 25, .mv (.t 8), [], none⟩,
       ⟨some 26, .mv (.t 2), [], none⟩,
       ⟨some 27, .call (.c (.fn (.func 230) [] [])) [.t 24, .t 25, .t 26], [], none⟩,
       ⟨some 23, .mv (.t 27), [], none⟩,
       ⟨some 28, .ext (.t 23) 0, [], none⟩,
       ⟨some 29, .ext (.t 23) 1, [], none⟩,
       ⟨some 9, .mv (.t 28), [], none⟩,
       ⟨some 10, .mv (.t 29), [], none⟩])
    (.seq (.live [10]) (.seq (.reg [⟨some 30, .mv (.t 10), [], none⟩,
        ⟨some 6, .mv (.t 30), [], none⟩])
     .ret))))))))) }

/-- arras/word.Pow -/
def ir228 : IFn :=
 { nt := 28, res := [.t 6],
   body := (.seq (.reg [⟨some 6, .mv (.c (.int .u64 0)), [], none⟩])
 (.seq (.live [0, 1, 2]) (.seq (.seq (.reg [⟨some 8, .mv (.t 2), [], none⟩,
      ⟨some 9, .bin 0 .eql (.t 8) (.c (.int .u64 0)), [], none⟩])
   (.seq (.live [0, 1, 2, 9]) (.cnd (.t 9) (.seq (.reg [⟨some 6, .mv (.c (.int .u64 0)), [], none⟩])
     .ret)
    .skip)))
  (.seq (.live [0, 1, 2]) (.seq (.reg [⟨some 10, .mv (.t 2), [], none⟩,
      ⟨some 11, .bin 0 .rem (.c (.int .u64 1)) (.t 10), [], none⟩,
      ⟨some 7, .mv (.t 11), [], none⟩])
   (.seq (.live [0, 1, 2, 7]) (.seq (.blk 0 (.loop (.seq (.live [0, 1, 2, 7]) (.seq (.seq (.reg [⟨some 12, .mv (.t 1), [], none⟩,
           ⟨some 13, .bin 0 .gtr (.t 12) (.c (.int .u64 0)), [], none⟩])
        (.seq (.live [0, 1, 2, 7, 13]) (.cnd (.t 13) .skip
         (.exit 0))))
       (.seq (.live [0, 1, 2, 7]) (.seq (.blk 1 (.seq (.seq (.reg [⟨some 16, .mv (.t 1), [], none⟩,
              ⟨some 17, .bin 0 .and (.t 16) (.c (.int .u64 1)), [], none⟩,
              ⟨some 18, .bin 0 .eql (.t 17) (.c (.int .u64 1)), [], none⟩])
           (.seq (.live [0, 1, 2, 7, 18]) (.cnd (.t 18) (.reg [⟨some 19, .mv (.t 7), [], none⟩,
               ⟨some 20, .mv (.t 0), [], none⟩,
               ⟨some 21, .mv (.t 2), [], none⟩,
               ⟨some 22, .call (.c (.fn (.func 193) [] [])) [.t 19, .t 20, .t 21], [], none⟩,
               ⟨some 7, .mv (.t 22), [], none⟩])
            .skip)))
          (.seq (.live [0, 1, 2, 7]) (.reg [⟨some 23, .mv (.t 0), [], none⟩,
             ⟨some 24, .mv (.t 0), [], none⟩,
             ⟨some 25, .mv (.t 2), [], none⟩,
             ⟨some 26, .call (.c (.fn (.func 193) [] [])) [.t 23, .t 24, .t 25], [], none⟩,
             ⟨some 0, .mv (.t 26), [], none⟩]))))
        (.seq (.live [0, 1, 2, 7]) (.reg [⟨some 14, .mv (.t 1), [], none⟩,
           ⟨some 15, .bin 0 .shr (.t 14) (.c (.int .u64 1)), [], none⟩,
           ⟨some 1, .mv (.t 15), [], none⟩]))))))))
    (.seq (.live [7]) (.seq (.reg [⟨some 27, .mv (.t 7), [], none⟩,
        ⟨some 6, .mv (.t 27), [], none⟩])
     .ret))))))))) }

/-- (arras/prime.test).holds -/
def ir226 : IFn :=
 { nt := 43, res := [.t 4],
   body := (.seq (.reg [⟨some 2, .box 3 (.t 0), [], none⟩,
    ⟨some 4, .mv (.c (.bool false)), [], none⟩])
 (.seq (.live [1, 2, 21, 22, 23, 24, 25]) (.seq (.seq (.reg [⟨some 6, .mv (.t 1), [], none⟩,
      ⟨some 7, .fa false 1 0 (.t 2), [], none⟩,
      ⟨some 8, .ld false 1 (.t 7), [], none⟩,
      ⟨some 9, .bin 0 .rem (.t 6) (.t 8), [], none⟩,
      ⟨some 1, .mv (.t 9), [], none⟩])
   (.seq (.live [1, 2, 21, 22, 23, 24, 25]) (.seq (.reg [⟨some 10, .mv (.t 1), [], none⟩,
       ⟨some 11, .bin 0 .eql (.t 10) (.c (.int .u64 0)), [], none⟩])
    (.seq (.live [1, 2, 11, 21, 22, 23, 24, 25]) (.cnd (.t 11) (.seq (.reg [⟨some 4, .mv (.c (.bool true)), [], none⟩])
      .ret)
     .skip)))))
  (.seq (.live [1, 2, 21, 22, 23, 24, 25]) (.seq (.reg [⟨some 12, .mv (.t 1), [], none⟩,
      ⟨some 13, .fa false 1 1 (.t 2), [], none⟩,
      ⟨some 14, .ld false 1 (.t 13), [], none⟩,
      ⟨some 15, .fa false 1 0 (.t 2), [], none⟩,
      ⟨some 16, .ld false 1 (.t 15), [], none⟩,
      ⟨some 17, .call (.c (.fn (.func 228) [] [])) [.t 12, .t 14, .t 16], [], none⟩,
      ⟨some 5, .mv (.t 17), [], none⟩])
   (.seq (.live [2, 5, 21, 22, 23, 24, 25]) (.seq (.seq (.reg [⟨some 18, .mv (.t 5), [], none⟩,
        ⟨some 19, .bin 0 .eql (.t 18) (.c (.int .u64 1)), [], none⟩,
        ⟨some 20, .mv (.t 19), [], none⟩,
        ⟨some 21, .mv (.t 5), [], some (20, false)⟩,
        ⟨some 22, .fa false 1 0 (.t 2), [], some (20, false)⟩,
        ⟨some 23, .ld false 1 (.t 22), [], some (20, false)⟩,
        ⟨some 24, .bin 0 .sub (.t 23) (.c (.int .u64 1)), [], some (20, false)⟩,
        ⟨some 25, .bin 0 .eql (.t 21) (.t 24), [], some (20, false)⟩,
        ⟨some 26, .pick (.t 20) (.c (.bool true)) (.t 25), [], none⟩])
     (.seq (.live [2, 5, 26]) (.cnd (.t 26) (.seq (.reg [⟨some 4, .mv (.c (.bool true)), [], none⟩])
       .ret)
      .skip)))
    (.seq (.live [2, 5]) (.seq (.seq (.reg [⟨some 27, .fa false 1 2 (.t 2), [], none⟩,
         ⟨some 28, .ld false 1 (.t 27), [], none⟩,
         ⟨some 29, .bin 0 .sub (.t 28) (.c (.int .i64 1)), [], none⟩,
         ⟨some 30, .mv (.c (.int .i64 0)), [], none⟩])
      (.seq (.live [2, 5, 29, 30]) (.blk 0 (.loop (.seq (.live [2, 5, 29, 30]) (.seq (.reg [⟨some 31, .bin 0 .lss (.t 30) (.t 29), [], none⟩])
         (.seq (.live [2, 5, 29, 30, 31]) (.seq (.cnd (.t 31) .skip
           (.exit 0))
          (.seq (.blk 1 (.seq (.reg [⟨some 32, .mv (.t 5), [], none⟩,
                ⟨some 33, .mv (.t 5), [], none⟩,
                ⟨some 34, .fa false 1 0 (.t 2), [], none⟩,
                ⟨some 35, .ld false 1 (.t 34), [], none⟩,
                ⟨some 36, .call (.c (.fn (.func 193) [] [])) [.t 32, .t 33, .t 35], [], none⟩,
                ⟨some 5, .mv (.t 36), [], none⟩])
             (.seq (.live [2, 5, 29, 30]) (.seq (.reg [⟨some 37, .mv (.t 5), [], none⟩,
                 ⟨some 38, .fa false 1 0 (.t 2), [], none⟩,
                 ⟨some 39, .ld false 1 (.t 38), [], none⟩,
                 ⟨some 40, .bin 0 .sub (.t 39) (.c (.int .u64 1)), [], none⟩,
                 ⟨some 41, .bin 0 .eql (.t 37) (.t 40), [], none⟩])
              (.seq (.live [2, 5, 29, 30, 41]) (.cnd (.t 41) (.seq (.reg [⟨some 4, .mv (.c (.bool true)), [], none⟩])
                .ret)
               .skip))))))
           (.seq (.live [2, 5, 29, 30]) (.reg [⟨some 42, .bin 0 .add (.t 30) (.c (.int .i64 1)), [], none⟩,
              ⟨some 30, .mv (.t 42), [], none⟩])))))))))))
     (.seq (.live []) (.seq (.reg [⟨some 4, .mv (.c (.bool false)), [], none⟩])
      .ret))))))))))) }

/-- arras/prime.Is -/
def ir188 : IFn :=
 { nt := 43, res := [.t 2],
   body := (.seq (.reg [⟨some 2, .mv (.c (.bool false)), [], none⟩])
 (.seq (.live [0, 10, 11, 12, 17, 18]) (.seq (.seq (.reg [⟨some 7, .mv (.t 0), [], none⟩,
      ⟨some 8, .bin 0 .lss (.t 7) (.c (.int .u64 4)), [], none⟩,
      ⟨some 9, .mv (.t 8), [], none⟩,
      ⟨some 10, .mv (.t 0), [], some (9, false)⟩,
      ⟨some 11, .bin 0 .and (.t 10) (.c (.int .u64 1)), [], some (9, false)⟩,
      ⟨some 12, .bin 0 .eql (.t 11) (.c (.int .u64 0)), [], some (9, false)⟩,
      ⟨some 13, .pick (.t 9) (.c (.bool true)) (.t 12), [], none⟩])
   (.seq (.live [0, 13, 17, 18]) (.cnd (.t 13) (.seq (.reg [⟨some 14, .mv (.t 0), [], none⟩,
        ⟨some 15, .bin 0 .eql (.t 14) (.c (.int .u64 2)), [], none⟩,
        ⟨some 16, .mv (.t 15), [], none⟩,
        ⟨some 17, .mv (.t 0), [], some (16, false)⟩,
        ⟨some 18, .bin 0 .eql (.t 17) (.c (.int .u64 3)), [], some (16, false)⟩,
        ⟨some 19, .pick (.t 16) (.c (.bool true)) (.t 18), [], none⟩,
        ⟨some 2, .mv (.t 19), [], none⟩])
     .ret)
    .skip)))
  (.seq (.live [0]) (.seq (.reg [⟨some 20, .mv (.t 0), [], none⟩,
      ⟨some 21, .bin 0 .sub (.t 20) (.c (.int .u64 1)), [], none⟩,
      ⟨some 22, .call (.c (.fn (.func 225) [] [])) [.t 21], [], none⟩,
      ⟨some 3, .mv (.t 22), [], none⟩])
   (.seq (.live [0, 3]) (.seq (.reg [⟨some 23, .mv (.t 0), [], none⟩,
       ⟨some 24, .mv (.t 0), [], none⟩,
       ⟨some 25, .bin 0 .sub (.t 24) (.c (.int .u64 1)), [], none⟩,
       ⟨some 26, .mv (.t 3), [], none⟩,
       ⟨some 27, .conv .u64 (.t 26), [], none⟩,
       ⟨some 28, .bin 0 .shr (.t 25) (.t 27), [], none⟩,
       ⟨some 29, .mv (.t 3), [], none⟩,
       ⟨some 30, .build [.int .u64 0, .int .u64 0, .int .i64 0] [(0, 1, .t 23), (1, 1, .t 28), (2, 1, .t 29)], [], none⟩,
       ⟨some 31, .mkfn (.func 226) [.t 30] [], [], none⟩,
       ⟨some 4, .mv (.t 31), [], none⟩])
    (.seq (.live [4]) (.seq (.seq (.reg [⟨some 32, .bsl true 1 (.int .u64 0) 7 [(0, .c (.int .u64 2)), (1, .c (.int .u64 325)), (2, .c (.int .u64 9375)), (3, .c (.int .u64 28178)), (4, .c (.int .u64 450775)), (5, .c (.int .u64 9780504)), (6, .c (.int .u64 1795265022))], [], none⟩,
         ⟨some 33, .len (.t 32), [], none⟩,
         ⟨some 34, .mv (.c (.int .i64 0)), [], none⟩])
      (.seq (.live [4, 32, 33, 34]) (.blk 0 (.loop (.seq (.live [4, 32, 33, 34]) (.seq (.reg [⟨some 35, .bin 0 .lss (.t 34) (.t 33), [], none⟩])
         (.seq (.live [4, 32, 33, 34, 35]) (.seq (.cnd (.t 35) .skip
           (.exit 0))
          (.seq (.blk 1 (.seq (.reg [⟨some 36, .ia 1 (.t 32) (.t 34), [], none⟩,
                ⟨some 37, .ld false 1 (.t 36), [], none⟩,
                ⟨some 6, .mv (.t 37), [], none⟩])
             (.seq (.live [4, 6, 32, 33, 34]) (.seq (.reg [⟨some 38, .mv (.t 4), [], none⟩,
                 ⟨some 39, .mv (.t 6), [], none⟩,
                 ⟨some 40, .call (.t 38) [.t 39], [], none⟩,
                 ⟨some 41, .un .not (.t 40), [], none⟩])
              (.seq (.live [4, 32, 33, 34, 41]) (.cnd (.t 41) (.seq (.reg [⟨some 2, .mv (.c (.bool false)), [], none⟩])
                .ret)
               .skip))))))
           (.seq (.live [4, 32, 33, 34]) (.reg [⟨some 42, .bin 0 .add (.t 34) (.c (.int .i64 1)), [], none⟩,
              ⟨some 34, .mv (.t 42), [], none⟩])))))))))))
     (.seq (.live []) (.seq (.reg [⟨some 2, .mv (.c (.bool true)), [], none⟩])
      .ret))))))))))) }

/-- (arras/param.asked).friendly -/
def ir222 : IFn :=
 { nt := 17, res := [.t 4],
   body := (.seq (.reg [⟨some 2, .box 4 (.t 0), [], none⟩,
    ⟨some 4, .mv (.c (.bool false)), [], none⟩])
 (.seq (.live [1, 2, 14, 15]) (.seq (.reg [⟨some 5, .mv (.t 1), [], none⟩,
     ⟨some 6, .fa true 4 0 (.t 2), [], none⟩,
     ⟨some 7, .fa false 1 0 (.t 6), [], none⟩,
     ⟨some 8, .ld false 1 (.t 7), [], none⟩,
     ⟨some 9, .bin 0 .mul (.c (.int .i64 2)) (.t 8), [], none⟩,
     ⟨some 10, .conv .u64 (.t 9), [], none⟩,
     ⟨some 11, .bin 0 .rem (.t 5) (.t 10), [], none⟩,
     ⟨some 12, .bin 0 .eql (.t 11) (.c (.int .u64 1)), [], none⟩,
     ⟨some 13, .mv (.t 12), [], none⟩,
     ⟨some 14, .mv (.t 1), [], some (13, true)⟩,
     ⟨some 15, .call (.c (.fn (.func 188) [] [])) [.t 14], [], some (13, true)⟩,
     ⟨some 16, .pick (.t 13) (.t 15) (.c (.bool false)), [], none⟩,
     ⟨some 4, .mv (.t 16), [], none⟩])
  .ret))) }

/-- (arras/param.asked).plain -/
def ir181 : IFn :=
 { nt := 14, res := [.t 2],
   body := (.seq (.reg [⟨some 1, .box 4 (.t 0), [], none⟩,
    ⟨some 2, .mv (.c (.bool false)), [], none⟩])
 (.seq (.live [1, 8, 9, 10, 11, 12]) (.seq (.reg [⟨some 3, .fa true 4 0 (.t 1), [], none⟩,
     ⟨some 4, .fa false 1 1 (.t 3), [], none⟩,
     ⟨some 5, .ld false 1 (.t 4), [], none⟩,
     ⟨some 6, .bin 0 .lss (.t 5) (.c (.int .u64 1073741824)), [], none⟩,
     ⟨some 7, .mv (.t 6), [], none⟩,
     ⟨some 8, .ld true 4 (.t 1), [], some (7, true)⟩,
     ⟨some 9, .fa true 4 0 (.t 1), [], some (7, true)⟩,
     ⟨some 10, .fa false 1 1 (.t 9), [], some (7, true)⟩,
     ⟨some 11, .ld false 1 (.t 10), [], some (7, true)⟩,
     ⟨some 12, .call (.c (.fn (.func 222) [] [])) [.t 8, .t 11], [], some (7, true)⟩,
     ⟨some 13, .pick (.t 7) (.t 12) (.c (.bool false)), [], none⟩,
     ⟨some 2, .mv (.t 13), [], none⟩])
  .ret))) }

/-- slices.Index[[]uint64,uint64] -/
def ir223 : IFn :=
 { nt := 19, res := [.t 4],
   body := (.seq (.reg [⟨some 4, .mv (.c (.int .i64 0)), [], none⟩])
 (.seq (.live [0, 1]) (.seq (.seq (.reg [⟨some 6, .mv (.t 0), [], none⟩,
      ⟨some 7, .len (.t 6), [], none⟩,
      ⟨some 8, .mv (.c (.int .i64 0)), [], none⟩])
   (.seq (.live [0, 1, 7, 8]) (.blk 0 (.loop (.seq (.live [0, 1, 7, 8]) (.seq (.reg [⟨some 9, .bin 0 .lss (.t 8) (.t 7), [], none⟩])
      (.seq (.live [0, 1, 7, 8, 9]) (.seq (.cnd (.t 9) .skip
        (.exit 0))
       (.seq (.blk 1 (.seq (.reg [⟨some 10, .mv (.t 8), [], none⟩,
             ⟨some 5, .mv (.t 10), [], none⟩])
          (.seq (.live [0, 1, 5, 7, 8]) (.seq (.reg [⟨some 11, .mv (.t 1), [], none⟩,
              ⟨some 12, .mv (.t 0), [], none⟩,
              ⟨some 13, .mv (.t 5), [], none⟩,
              ⟨some 14, .ia 1 (.t 12) (.t 13), [], none⟩,
              ⟨some 15, .ld false 1 (.t 14), [], none⟩,
              ⟨some 16, .bin 0 .eql (.t 11) (.t 15), [], none⟩])
           (.seq (.live [0, 1, 5, 7, 8, 16]) (.cnd (.t 16) (.seq (.reg [⟨some 17, .mv (.t 5), [], none⟩,
                ⟨some 4, .mv (.t 17), [], none⟩])
             .ret)
            .skip))))))
        (.seq (.live [0, 1, 7, 8]) (.reg [⟨some 18, .bin 0 .add (.t 8) (.c (.int .i64 1)), [], none⟩,
           ⟨some 8, .mv (.t 18), [], none⟩])))))))))))
  (.seq (.live []) (.seq (.reg [⟨some 4, .mv (.c (.int .i64 (-1))), [], none⟩])
   .ret))))) }

/-- slices.Contains[[]uint64,uint64] -/
def ir185 : IFn :=
 { nt := 9, res := [.t 4],
   body := (.seq (.reg [⟨some 4, .mv (.c (.bool false)), [], none⟩])
 (.seq (.live [0, 1]) (.seq (.reg [⟨some 5, .mv (.t 0), [], none⟩,
     ⟨some 6, .mv (.t 1), [], none⟩,
     ⟨some 7, .call (.c (.fn (.func 223) [] [])) [.t 5, .t 6], [], none⟩,
     ⟨some 8, .bin 0 .geq (.t 7) (.c (.int .i64 0)), [], none⟩,
     ⟨some 4, .mv (.t 8), [], none⟩])
  .ret))) }

/-- (arras/param.asked).primes -/
def ir182 : IFn :=
 { nt := 51, res := [.t 2],
   body := (.seq (.reg [⟨some 1, .box 4 (.t 0), [], none⟩,
    ⟨some 2, .mv (.c (.bool false)), [], none⟩])
 (.seq (.live [1, 17, 18, 19, 20, 21, 24, 25, 26, 27, 28, 29, 30, 33, 34, 35, 36, 45, 46, 47, 48, 49]) (.seq (.seq (.reg [⟨some 5, .fa true 4 0 (.t 1), [], none⟩,
      ⟨some 6, .fa false 1 2 (.t 5), [], none⟩,
      ⟨some 7, .ld false 1 (.t 6), [], none⟩,
      ⟨some 8, .len (.t 7), [], none⟩,
      ⟨some 9, .mv (.c (.int .i64 0)), [], none⟩])
   (.seq (.live [1, 7, 8, 9, 17, 18, 19, 20, 21, 24, 25, 26, 27, 28, 29, 30, 33, 34, 35, 36, 45, 46, 47, 48, 49]) (.blk 0 (.loop (.seq (.live [1, 7, 8, 9, 17, 18, 19, 20, 21, 24, 25, 26, 27, 28, 29, 30, 33, 34, 35, 36, 45, 46, 47, 48, 49]) (.seq (.reg [⟨some 10, .bin 0 .lss (.t 9) (.t 8), [], none⟩])
      (.seq (.live [1, 7, 8, 9, 10, 17, 18, 19, 20, 21, 24, 25, 26, 27, 28, 29, 30, 33, 34, 35, 36, 45, 46, 47, 48, 49]) (.seq (.cnd (.t 10) .skip
        (.exit 0))
       (.seq (.blk 1 (.seq (.reg [⟨some 11, .mv (.t 9), [], none⟩,
             ⟨some 12, .ia 1 (.t 7) (.t 9), [], none⟩,
             ⟨some 13, .ld false 1 (.t 12), [], none⟩,
             ⟨some 3, .mv (.t 11), [], none⟩,
             ⟨some 4, .mv (.t 13), [], none⟩])
          (.seq (.live [1, 3, 4, 7, 8, 9, 17, 18, 19, 20, 21, 24, 25, 26, 27, 28, 29, 30, 33, 34, 35, 36, 45, 46, 47, 48, 49]) (.seq (.reg [⟨some 14, .mv (.t 4), [], none⟩,
              ⟨some 15, .bin 0 .geq (.t 14) (.c (.int .u64 1125899906842624)), [], none⟩,
              ⟨some 16, .mv (.t 15), [], none⟩,
              ⟨some 17, .mv (.t 4), [], some (16, false)⟩,
              ⟨some 18, .fa true 4 0 (.t 1), [], some (16, false)⟩,
              ⟨some 19, .fa false 1 1 (.t 18), [], some (16, false)⟩,
              ⟨some 20, .ld false 1 (.t 19), [], some (16, false)⟩,
              ⟨some 21, .bin 0 .eql (.t 17) (.t 20), [], some (16, false)⟩,
              ⟨some 22, .pick (.t 16) (.c (.bool true)) (.t 21), [], none⟩,
              ⟨some 23, .mv (.t 22), [], none⟩,
              ⟨some 24, .fa true 4 0 (.t 1), [], some (23, false)⟩,
              ⟨some 25, .fa false 1 2 (.t 24), [], some (23, false)⟩,
              ⟨some 26, .ld false 1 (.t 25), [], some (23, false)⟩,
              ⟨some 27, .mv (.t 3), [], some (23, false)⟩,
              ⟨some 28, .slc 1 (.t 26) none (some (.t 27)) none, [], some (23, false)⟩,
              ⟨some 29, .mv (.t 4), [], some (23, false)⟩,
              ⟨some 30, .call (.c (.fn (.func 185) [] [])) [.t 28, .t 29], [], some (23, false)⟩,
              ⟨some 31, .pick (.t 23) (.c (.bool true)) (.t 30), [], none⟩,
              ⟨some 32, .mv (.t 31), [], none⟩,
              ⟨some 33, .ld true 4 (.t 1), [], some (32, false)⟩,
              ⟨some 34, .mv (.t 4), [], some (32, false)⟩,
              ⟨some 35, .call (.c (.fn (.func 222) [] [])) [.t 33, .t 34], [], some (32, false)⟩,
              ⟨some 36, .un .not (.t 35), [], some (32, false)⟩,
              ⟨some 37, .pick (.t 32) (.c (.bool true)) (.t 36), [], none⟩])
           (.seq (.live [1, 7, 8, 9, 17, 18, 19, 20, 21, 24, 25, 26, 27, 28, 29, 30, 33, 34, 35, 36, 37, 45, 46, 47, 48, 49]) (.cnd (.t 37) (.seq (.reg [⟨some 2, .mv (.c (.bool false)), [], none⟩])
             .ret)
            .skip))))))
        (.seq (.live [1, 7, 8, 9, 17, 18, 19, 20, 21, 24, 25, 26, 27, 28, 29, 30, 33, 34, 35, 36, 45, 46, 47, 48, 49]) (.reg [⟨some 38, .bin 0 .add (.t 9) (.c (.int .i64 1)), [], none⟩,
           ⟨some 9, .mv (.t 38), [], none⟩])))))))))))
  (.seq (.live [1, 45, 46, 47, 48, 49]) (.seq (.reg [⟨some 39, .fa true 4 0 (.t 1), [], none⟩,
      ⟨some 40, .fa false 1 2 (.t 39), [], none⟩,
      ⟨some 41, .ld false 1 (.t 40), [], none⟩,
      ⟨some 42, .len (.t 41), [], none⟩,
      ⟨some 43, .bin 0 .gtr (.t 42) (.c (.int .i64 0)), [], none⟩,
      ⟨some 44, .mv (.t 43), [], none⟩,
      ⟨some 45, .fa true 4 0 (.t 1), [], some (44, true)⟩,
      ⟨some 46, .fa false 1 2 (.t 45), [], some (44, true)⟩,
      ⟨some 47, .ld false 1 (.t 46), [], some (44, true)⟩,
      ⟨some 48, .len (.t 47), [], some (44, true)⟩,
      ⟨some 49, .bin 0 .leq (.t 48) (.c (.int .i64 8)), [], some (44, true)⟩,
      ⟨some 50, .pick (.t 44) (.t 49) (.c (.bool false)), [], none⟩,
      ⟨some 2, .mv (.t 50), [], none⟩])
   .ret))))) }

/-- arras/nat.Bits -/
def ir122 : IFn :=
 { nt := 20, res := [.t 2],
   body := (.seq (.reg [⟨some 2, .mv (.c (.int .i64 0)), [], none⟩])
 (.seq (.live [0]) (.seq (.reg [⟨some 3, .mv (.t 0), [], none⟩,
     ⟨some 4, .call (.c (.fn (.func 138) [] [])) [.t 3], [], none⟩,
     ⟨some 0, .mv (.t 4), [], none⟩])
  (.seq (.live [0]) (.seq (.seq (.reg [⟨some 5, .mv (.t 0), [], none⟩,
       ⟨some 6, .len (.t 5), [], none⟩,
       ⟨some 7, .bin 0 .eql (.t 6) (.c (.int .i64 0)), [], none⟩])
    (.seq (.live [0, 7]) (.cnd (.t 7) (.seq (.reg [⟨some 2, .mv (.c (.int .i64 0)), [], none⟩])
      .ret)
     .skip)))
   (.seq (.live [0]) (.seq (.reg [⟨some 8, .mv (.t 0), [], none⟩,
       ⟨some 9, .len (.t 8), [], none⟩,
       ⟨some 10, .bin 0 .sub (.t 9) (.c (.int .i64 1)), [], none⟩,
       ⟨some 11, .bin 0 .mul (.c (.int .i64 64)) (.t 10), [], none⟩,
       ⟨some 12, .mv (.t 0), [], none⟩,
       ⟨some 13, .mv (.t 0), [], none⟩,
       ⟨some 14, .len (.t 13), [], none⟩,
       ⟨some 15, .bin 0 .sub (.t 14) (.c (.int .i64 1)), [], none⟩,
       ⟨some 16, .ia 1 (.t 12) (.t 15), [], none⟩,
       ⟨some 17, .ld false 1 (.t 16), [], none⟩,
       ⟨some 18, .call (.c (.fn (.func 186) [] [])) [.t 17], [], none⟩,
       ⟨some 19, .bin 0 .add (.t 11) (.t 18), [], none⟩,
       ⟨some 2, .mv (.t 19), [], none⟩])
    .ret))))))) }

/-- arras/nat.Mul -/
def ir137 : IFn :=
 { nt := 79, res := [.t 4],
   body := (.seq (.reg [⟨some 4, .mv (.c (.lit (.slice none 0 0))), [], none⟩])
 (.seq (.live [0, 1]) (.seq (.reg [⟨some 14, .mv (.t 0), [], none⟩,
     ⟨some 15, .len (.t 14), [], none⟩,
     ⟨some 16, .mv (.t 1), [], none⟩,
     ⟨some 17, .len (.t 16), [], none⟩,
     ⟨some 18, .bin 0 .add (.t 15) (.t 17), [], none⟩,
     ⟨some 19, .mksl true 1 (.int .u64 0) 8 (.t 18) (.t 18), [], none⟩,
     ⟨some 5, .mv (.t 19), [], none⟩])
  (.seq (.live [0, 1, 5]) (.seq (.seq (.reg [⟨some 20, .mv (.t 0), [], none⟩,
       ⟨some 21, .len (.t 20), [], none⟩,
       ⟨some 22, .mv (.c (.int .i64 0)), [], none⟩])
    (.seq (.live [1, 5, 20, 21, 22]) (.blk 0 (.loop (.seq (.live [1, 5, 20, 21, 22]) (.seq (.reg [⟨some 23, .bin 0 .lss (.t 22) (.t 21), [], none⟩])
       (.seq (.live [1, 5, 20, 21, 22, 23]) (.seq (.cnd (.t 23) .skip
         (.exit 0))
        (.seq (.blk 1 (.seq (.reg [⟨some 24, .mv (.t 22), [], none⟩,
              ⟨some 25, .ia 1 (.t 20) (.t 22), [], none⟩,
              ⟨some 26, .ld false 1 (.t 25), [], none⟩,
              ⟨some 6, .mv (.t 24), [], none⟩,
              ⟨some 7, .mv (.t 26), [], none⟩])
           (.seq (.live [1, 5, 6, 7, 20, 21, 22]) (.seq (.reg [⟨some 8, .mv (.c (.int .u64 0)), [], none⟩])
            (.seq (.live [1, 5, 6, 7, 8, 20, 21, 22]) (.seq (.seq (.reg [⟨some 27, .mv (.t 1), [], none⟩,
                 ⟨some 28, .len (.t 27), [], none⟩,
                 ⟨some 29, .mv (.c (.int .i64 0)), [], none⟩])
              (.seq (.live [1, 5, 6, 7, 8, 20, 21, 22, 27, 28, 29]) (.blk 2 (.loop (.seq (.live [1, 5, 6, 7, 8, 20, 21, 22, 27, 28, 29]) (.seq (.reg [⟨some 30, .bin 0 .lss (.t 29) (.t 28), [], none⟩])
                 (.seq (.live [1, 5, 6, 7, 8, 20, 21, 22, 27, 28, 29, 30]) (.seq (.cnd (.t 30) .skip
                   (.exit 2))
                  (.seq (.blk 3 (.seq (.reg [⟨some 31, .mv (.t 29), [], none⟩,
                        ⟨some 32, .ia 1 (.t 27) (.t 29), [], none⟩,
                        ⟨some 33, .ld false 1 (.t 32), [], none⟩,
                        ⟨some 9, .mv (.t 31), [], none⟩,
                        ⟨some 10, .mv (.t 33), [], none⟩])
                     (.seq (.live [1, 5, 6, 7, 8, 9, 10, 20, 21, 22, 27, 28, 29]) (.seq (.reg [⟨some 35, .mv (.t 7), [], none⟩,
                         ⟨some 36, .mv (.t 10), [], none⟩,
                         ⟨some 37, .call (.c (.fn (.func 203) [] [])) [.t 35, .t 36], [], none⟩,
                         ⟨some 34, .mv (.t 37), [], none⟩,
                         ⟨some 38, .ext (.t 34) 0, [], none⟩,
                         ⟨some 39, .ext (.t 34) 1, [], none⟩,
                         ⟨some 11, .mv (.t 38), [], none⟩,
                         ⟨some 12, .mv (.t 39), [], none⟩])
                      (.seq (.live [1, 5, 6, 7, 8, 9, 11, 12, 20, 21, 22, 27, 28, 29]) (.seq (.reg [⟨some 41, .mv (.t 12), [], none⟩,
                          ⟨some 42, .mv (.t 8), [], none⟩,
                          ⟨some 43, .call (.c (.fn (.func 197) [] [])) [.t 41, .t 42, .c (.int .u64 0)], [], none⟩,
                          ⟨some 40, .mv (.t 43), [], none⟩,
                          ⟨some 44, .ext (.t 40) 0, [], none⟩,
                          ⟨some 45, .ext (.t 40) 1, [], none⟩,
                          ⟨some 12, .mv (.t 44), [], none⟩,
                          ⟨some 13, .mv (.t 45), [], none⟩])
                       (.seq (.live [1, 5, 6, 7, 9, 11, 12, 13, 20, 21, 22, 27, 28, 29]) (.seq (.reg [⟨some 46, .mv (.t 11), [], none⟩,
                           ⟨some 47, .mv (.t 13), [], none⟩,
                           ⟨some 48, .bin 0 .add (.t 46) (.t 47), [], none⟩,
                           ⟨some 11, .mv (.t 48), [], none⟩])
                        (.seq (.live [1, 5, 6, 7, 9, 11, 12, 20, 21, 22, 27, 28, 29]) (.seq (.reg [⟨some 50, .mv (.t 5), [], none⟩,
                            ⟨some 51, .mv (.t 6), [], none⟩,
                            ⟨some 52, .mv (.t 9), [], none⟩,
                            ⟨some 53, .bin 0 .add (.t 51) (.t 52), [], none⟩,
                            ⟨some 54, .mv (.t 5), [], none⟩,
                            ⟨some 55, .mv (.t 6), [], none⟩,
                            ⟨some 56, .mv (.t 9), [], none⟩,
                            ⟨some 57, .bin 0 .add (.t 55) (.t 56), [], none⟩,
                            ⟨some 58, .ia 1 (.t 54) (.t 57), [], none⟩,
                            ⟨some 59, .ld false 1 (.t 58), [], none⟩,
                            ⟨some 60, .mv (.t 12), [], none⟩,
                            ⟨some 61, .call (.c (.fn (.func 197) [] [])) [.t 59, .t 60, .c (.int .u64 0)], [], none⟩,
                            ⟨some 49, .mv (.t 61), [], none⟩,
                            ⟨some 62, .ext (.t 49) 0, [], none⟩,
                            ⟨some 63, .ext (.t 49) 1, [], none⟩,
                            ⟨some 64, .ia 1 (.t 50) (.t 53), [], none⟩,
                            ⟨none, .st 1 (.t 64) (.t 62), [], none⟩,
                            ⟨some 13, .mv (.t 63), [], none⟩])
                         (.seq (.live [1, 5, 6, 7, 11, 13, 20, 21, 22, 27, 28, 29]) (.reg [⟨some 65, .mv (.t 11), [], none⟩,
                            ⟨some 66, .mv (.t 13), [], none⟩,
                            ⟨some 67, .bin 0 .add (.t 65) (.t 66), [], none⟩,
                            ⟨some 8, .mv (.t 67), [], none⟩]))))))))))))
                   (.seq (.live [1, 5, 6, 7, 8, 20, 21, 22, 27, 28, 29]) (.reg [⟨some 68, .bin 0 .add (.t 29) (.c (.int .i64 1)), [], none⟩,
                      ⟨some 29, .mv (.t 68), [], none⟩])))))))))))
             (.seq (.live [1, 5, 6, 8, 20, 21, 22]) (.reg [⟨some 69, .mv (.t 5), [], none⟩,
                ⟨some 70, .mv (.t 6), [], none⟩,
                ⟨some 71, .mv (.t 1), [], none⟩,
                ⟨some 72, .len (.t 71), [], none⟩,
                ⟨some 73, .bin 0 .add (.t 70) (.t 72), [], none⟩,
                ⟨some 74, .mv (.t 8), [], none⟩,
                ⟨some 75, .ia 1 (.t 69) (.t 73), [], none⟩,
                ⟨none, .st 1 (.t 75) (.t 74), [], none⟩]))))))))
         (.seq (.live [1, 5, 20, 21, 22]) (.reg [⟨some 76, .bin 0 .add (.t 22) (.c (.int .i64 1)), [], none⟩,
            ⟨some 22, .mv (.t 76), [], none⟩])))))))))))
   (.seq (.live [5]) (.seq (.reg [⟨some 77, .mv (.t 5), [], none⟩,
       ⟨some 78, .call (.c (.fn (.func 138) [] [])) [.t 77], [], none⟩,
       ⟨some 4, .mv (.t 78), [], none⟩])
    .ret))))))) }

/-- arras/crt.Product -/
def ir123 : IFn :=
 { nt := 19, res := [.t 2],
   body := (.seq (.reg [⟨some 2, .mv (.c (.lit (.slice none 0 0))), [], none⟩])
 (.seq (.live [0]) (.seq (.reg [⟨some 6, .bsl true 1 (.int .u64 0) 1 [(0, .c (.int .u64 1))], [], none⟩,
     ⟨some 3, .mv (.t 6), [], none⟩])
  (.seq (.live [0, 3]) (.seq (.seq (.reg [⟨some 7, .mv (.t 0), [], none⟩,
       ⟨some 8, .len (.t 7), [], none⟩,
       ⟨some 9, .mv (.c (.int .i64 0)), [], none⟩])
    (.seq (.live [3, 7, 8, 9]) (.blk 0 (.loop (.seq (.live [3, 7, 8, 9]) (.seq (.reg [⟨some 10, .bin 0 .lss (.t 9) (.t 8), [], none⟩])
       (.seq (.live [3, 7, 8, 9, 10]) (.seq (.cnd (.t 10) .skip
         (.exit 0))
        (.seq (.blk 1 (.seq (.reg [⟨some 11, .ia 1 (.t 7) (.t 9), [], none⟩,
              ⟨some 12, .ld false 1 (.t 11), [], none⟩,
              ⟨some 5, .mv (.t 12), [], none⟩])
           (.seq (.live [3, 5, 7, 8, 9]) (.reg [⟨some 13, .mv (.t 3), [], none⟩,
              ⟨some 14, .mv (.t 5), [], none⟩,
              ⟨some 15, .bsl true 1 (.int .u64 0) 1 [(0, .t 14)], [], none⟩,
              ⟨some 16, .call (.c (.fn (.func 137) [] [])) [.t 13, .t 15], [], none⟩,
              ⟨some 3, .mv (.t 16), [], none⟩]))))
         (.seq (.live [3, 7, 8, 9]) (.reg [⟨some 17, .bin 0 .add (.t 9) (.c (.int .i64 1)), [], none⟩,
            ⟨some 9, .mv (.t 17), [], none⟩])))))))))))
   (.seq (.live [3]) (.seq (.reg [⟨some 18, .mv (.t 3), [], none⟩,
       ⟨some 2, .mv (.t 18), [], none⟩])
    .ret))))))) }

/-- (arras/param.asked).short -/
def ir183 : IFn :=
 { nt := 13, res := [.t 2],
   body := (.seq (.reg [⟨some 1, .box 4 (.t 0), [], none⟩,
    ⟨some 2, .mv (.c (.bool false)), [], none⟩])
 (.seq (.live [1]) (.seq (.drw [⟨some 3, .fa true 4 0 (.t 1), [], none⟩,
     ⟨some 4, .fa false 1 2 (.t 3), [0], none⟩,
     ⟨some 5, .ld false 1 (.t 4), [1], none⟩,
     ⟨some 6, .call (.c (.fn (.func 123) [] [])) [.t 5], [2], none⟩,
     ⟨some 7, .call (.c (.fn (.func 122) [] [])) [.t 6], [3], none⟩,
     ⟨some 8, .fa true 4 0 (.t 1), [], none⟩,
     ⟨some 9, .fa false 1 0 (.t 8), [5], none⟩,
     ⟨some 10, .ld false 1 (.t 9), [6], none⟩,
     ⟨some 11, .call (.c (.fn (.func 221) [] [])) [.t 10], [7, 4], none⟩,
     ⟨some 12, .bin 0 .leq (.t 7) (.t 11), [4, 8], none⟩,
     ⟨some 2, .mv (.t 12), [9, 8, 0, 1, 2, 3, 4, 5, 6, 7], none⟩])
  .ret))) }

/-- arras/param.Check -/
def ir120 : IFn :=
 { nt := 26, res := [.t 2],
   body := (.seq (.reg [⟨some 1, .box 4 (.t 0), [], none⟩,
    ⟨some 2, .mv (.c (.int .i64 0)), [], none⟩])
 (.seq (.live [1]) (.seq (.reg [⟨some 6, .ld true 4 (.t 1), [], none⟩,
     ⟨some 7, .build [.int .i64 0, .int .u64 0, .lit (.slice none 0 0), .int .i64 0] [(0, 4, .t 6)], [], none⟩,
     ⟨some 3, .new (.agg [.int .i64 0, .int .u64 0, .lit (.slice none 0 0), .int .i64 0]), [], none⟩,
     ⟨none, .st 4 (.t 3) (.t 7), [], none⟩])
  (.seq (.live [3]) (.seq (.seq (.reg [⟨some 8, .ld true 4 (.t 3), [], none⟩,
       ⟨some 9, .mkfn (.func 180) [.t 8] [], [], none⟩,
       ⟨some 10, .ld true 4 (.t 3), [], none⟩,
       ⟨some 11, .mkfn (.func 181) [.t 10] [], [], none⟩,
       ⟨some 12, .ld true 4 (.t 3), [], none⟩,
       ⟨some 13, .mkfn (.func 182) [.t 12] [], [], none⟩,
       ⟨some 14, .ld true 4 (.t 3), [], none⟩,
       ⟨some 15, .mkfn (.func 183) [.t 14] [], [], none⟩,
       ⟨some 16, .bsl false 1 (.lit .nilFunc) 4 [(0, .t 9), (1, .t 11), (2, .t 13), (3, .t 15)], [], none⟩,
       ⟨some 17, .len (.t 16), [], none⟩,
       ⟨some 18, .mv (.c (.int .i64 0)), [], none⟩])
    (.seq (.live [16, 17, 18]) (.blk 0 (.loop (.seq (.live [16, 17, 18]) (.seq (.reg [⟨some 19, .bin 0 .lss (.t 18) (.t 17), [], none⟩])
       (.seq (.live [16, 17, 18, 19]) (.seq (.cnd (.t 19) .skip
         (.exit 0))
        (.seq (.blk 1 (.seq (.reg [⟨some 20, .ia 1 (.t 16) (.t 18), [], none⟩,
              ⟨some 21, .ld false 1 (.t 20), [], none⟩,
              ⟨some 5, .mv (.t 21), [], none⟩])
           (.seq (.live [5, 16, 17, 18]) (.seq (.reg [⟨some 22, .mv (.t 5), [], none⟩,
               ⟨some 23, .call (.t 22) [], [], none⟩,
               ⟨some 24, .un .not (.t 23), [], none⟩])
            (.seq (.live [16, 17, 18, 24]) (.cnd (.t 24) (.seq (.reg [⟨some 2, .mv (.c (.int .i64 8)), [], none⟩])
              .ret)
             .skip))))))
         (.seq (.live [16, 17, 18]) (.reg [⟨some 25, .bin 0 .add (.t 18) (.c (.int .i64 1)), [], none⟩,
            ⟨some 18, .mv (.t 25), [], none⟩])))))))))))
   (.seq (.live []) (.seq (.reg [⟨some 2, .mv (.c (.int .i64 0)), [], none⟩])
    .ret))))))) }

/-- math/bits.OnesCount64 -/
def ir224 : IFn :=
 { nt := 35, res := [.t 2],
   body := (.seq (.reg [⟨some 2, .mv (.c (.int .i64 0)), [], none⟩])
 (.seq (.live [0]) (.seq (.reg [⟨some 3, .mv (.t 0), [], none⟩,
     ⟨some 4, .bin 0 .shr (.t 3) (.c (.int .u64 1)), [], none⟩,
     ⟨some 5, .bin 0 .and (.t 4) (.c (.int .u64 6148914691236517205)), [], none⟩,
     ⟨some 6, .mv (.t 0), [], none⟩,
     ⟨some 7, .bin 0 .and (.t 6) (.c (.int .u64 6148914691236517205)), [], none⟩,
     ⟨some 8, .bin 0 .add (.t 5) (.t 7), [], none⟩,
     ⟨some 0, .mv (.t 8), [], none⟩])
  (.seq (.live [0]) (.seq (.reg [⟨some 9, .mv (.t 0), [], none⟩,
      ⟨some 10, .bin 0 .shr (.t 9) (.c (.int .u64 2)), [], none⟩,
      ⟨some 11, .bin 0 .and (.t 10) (.c (.int .u64 3689348814741910323)), [], none⟩,
      ⟨some 12, .mv (.t 0), [], none⟩,
      ⟨some 13, .bin 0 .and (.t 12) (.c (.int .u64 3689348814741910323)), [], none⟩,
      ⟨some 14, .bin 0 .add (.t 11) (.t 13), [], none⟩,
      ⟨some 0, .mv (.t 14), [], none⟩])
   (.seq (.live [0]) (.seq (.reg [⟨some 15, .mv (.t 0), [], none⟩,
       ⟨some 16, .bin 0 .shr (.t 15) (.c (.int .u64 4)), [], none⟩,
       ⟨some 17, .mv (.t 0), [], none⟩,
       ⟨some 18, .bin 0 .add (.t 16) (.t 17), [], none⟩,
       ⟨some 19, .bin 0 .and (.t 18) (.c (.int .u64 1085102592571150095)), [], none⟩,
       ⟨some 0, .mv (.t 19), [], none⟩])
    (.seq (.live [0]) (.seq (.reg [⟨some 20, .mv (.t 0), [], none⟩,
        ⟨some 21, .mv (.t 0), [], none⟩,
        ⟨some 22, .bin 0 .shr (.t 21) (.c (.int .u64 8)), [], none⟩,
        ⟨some 23, .bin 0 .add (.t 20) (.t 22), [], none⟩,
        ⟨some 0, .mv (.t 23), [], none⟩])
     (.seq (.live [0]) (.seq (.reg [⟨some 24, .mv (.t 0), [], none⟩,
         ⟨some 25, .mv (.t 0), [], none⟩,
         ⟨some 26, .bin 0 .shr (.t 25) (.c (.int .u64 16)), [], none⟩,
         ⟨some 27, .bin 0 .add (.t 24) (.t 26), [], none⟩,
         ⟨some 0, .mv (.t 27), [], none⟩])
      (.seq (.live [0]) (.seq (.reg [⟨some 28, .mv (.t 0), [], none⟩,
          ⟨some 29, .mv (.t 0), [], none⟩,
          ⟨some 30, .bin 0 .shr (.t 29) (.c (.int .u64 32)), [], none⟩,
          ⟨some 31, .bin 0 .add (.t 28) (.t 30), [], none⟩,
          ⟨some 0, .mv (.t 31), [], none⟩])
       (.seq (.live [0]) (.seq (.reg [⟨some 32, .mv (.t 0), [], none⟩,
           ⟨some 33, .conv .i64 (.t 32), [], none⟩,
           ⟨some 34, .bin 0 .and (.t 33) (.c (.int .i64 127)), [], none⟩,
           ⟨some 2, .mv (.t 34), [], none⟩])
        .ret))))))))))))))) }

/-- math/bits.OnesCount32 -/
def ir227 : IFn :=
 { nt := 21, res := [.t 2],
   body := (.seq (.reg [⟨some 2, .mv (.c (.int .i64 0)), [], none⟩])
 (.seq (.live [0]) (.seq (.drw [⟨some 3, .mv (.t 0), [], none⟩,
     ⟨some 4, .bin 0 .shr (.t 3) (.c (.int .u64 24)), [0], none⟩,
     ⟨some 5, .sidx (.c (.lit (.string ⟨#[0, 1, 1, 2, 1, 2, 2, 3, 1, 2, 2, 3, 2, 3, 3, 4, 1, 2, 2, 3, 2, 3, 3, 4, 2, 3, 3, 4, 3, 4, 4, 5, 1, 2, 2, 3, 2, 3, 3, 4, 2, 3, 3, 4, 3, 4, 4, 5, 2, 3, 3, 4, 3, 4, 4, 5, 3, 4, 4, 5, 4, 5, 5, 6, 1, 2, 2, 3, 2, 3, 3, 4, 2, 3, 3, 4, 3, 4, 4, 5, 2, 3, 3, 4, 3, 4, 4, 5, 3, 4, 4, 5, 4, 5, 5, 6, 2, 3, 3, 4, 3, 4, 4, 5, 3, 4, 4, 5, 4, 5, 5, 6, 3, 4, 4, 5, 4, 5, 5, 6, 4, 5, 5, 6, 5, 6, 6, 7, 1, 2, 2, 3, 2, 3, 3, 4, 2, 3, 3, 4, 3, 4, 4, 5, 2, 3, 3, 4, 3, 4, 4, 5, 3, 4, 4, 5, 4, 5, 5, 6, 2, 3, 3, 4, 3, 4, 4, 5, 3, 4, 4, 5, 4, 5, 5, 6, 3, 4, 4, 5, 4, 5, 5, 6, 4, 5, 5, 6, 5, 6, 6, 7, 2, 3, 3, 4, 3, 4, 4, 5, 3, 4, 4, 5, 4, 5, 5, 6, 3, 4, 4, 5, 4, 5, 5, 6, 4, 5, 5, 6, 5, 6, 6, 7, 3, 4, 4, 5, 4, 5, 5, 6, 4, 5, 5, 6, 5, 6, 6, 7, 4, 5, 5, 6, 5, 6, 6, 7, 5, 6, 6, 7, 6, 7, 7, 8]⟩))) (.t 4), [1], none⟩,
     ⟨some 6, .mv (.t 0), [], none⟩,
     ⟨some 7, .bin 0 .shr (.t 6) (.c (.int .u64 16)), [3], none⟩,
     ⟨some 8, .bin 0 .and (.t 7) (.c (.int .u32 255)), [4], none⟩,
     ⟨some 9, .sidx (.c (.lit (.string ⟨#[0, 1, 1, 2, 1, 2, 2, 3, 1, 2, 2, 3, 2, 3, 3, 4, 1, 2, 2, 3, 2, 3, 3, 4, 2, 3, 3, 4, 3, 4, 4, 5, 1, 2, 2, 3, 2, 3, 3, 4, 2, 3, 3, 4, 3, 4, 4, 5, 2, 3, 3, 4, 3, 4, 4, 5, 3, 4, 4, 5, 4, 5, 5, 6, 1, 2, 2, 3, 2, 3, 3, 4, 2, 3, 3, 4, 3, 4, 4, 5, 2, 3, 3, 4, 3, 4, 4, 5, 3, 4, 4, 5, 4, 5, 5, 6, 2, 3, 3, 4, 3, 4, 4, 5, 3, 4, 4, 5, 4, 5, 5, 6, 3, 4, 4, 5, 4, 5, 5, 6, 4, 5, 5, 6, 5, 6, 6, 7, 1, 2, 2, 3, 2, 3, 3, 4, 2, 3, 3, 4, 3, 4, 4, 5, 2, 3, 3, 4, 3, 4, 4, 5, 3, 4, 4, 5, 4, 5, 5, 6, 2, 3, 3, 4, 3, 4, 4, 5, 3, 4, 4, 5, 4, 5, 5, 6, 3, 4, 4, 5, 4, 5, 5, 6, 4, 5, 5, 6, 5, 6, 6, 7, 2, 3, 3, 4, 3, 4, 4, 5, 3, 4, 4, 5, 4, 5, 5, 6, 3, 4, 4, 5, 4, 5, 5, 6, 4, 5, 5, 6, 5, 6, 6, 7, 3, 4, 4, 5, 4, 5, 5, 6, 4, 5, 5, 6, 5, 6, 6, 7, 4, 5, 5, 6, 5, 6, 6, 7, 5, 6, 6, 7, 6, 7, 7, 8]⟩))) (.t 8), [5], none⟩,
     ⟨some 10, .bin 0 .add (.t 5) (.t 9), [2, 6], none⟩,
     ⟨some 11, .mv (.t 0), [], none⟩,
     ⟨some 12, .bin 0 .shr (.t 11) (.c (.int .u64 8)), [8], none⟩,
     ⟨some 13, .bin 0 .and (.t 12) (.c (.int .u32 255)), [9], none⟩,
     ⟨some 14, .sidx (.c (.lit (.string ⟨#[0, 1, 1, 2, 1, 2, 2, 3, 1, 2, 2, 3, 2, 3, 3, 4, 1, 2, 2, 3, 2, 3, 3, 4, 2, 3, 3, 4, 3, 4, 4, 5, 1, 2, 2, 3, 2, 3, 3, 4, 2, 3, 3, 4, 3, 4, 4, 5, 2, 3, 3, 4, 3, 4, 4, 5, 3, 4, 4, 5, 4, 5, 5, 6, 1, 2, 2, 3, 2, 3, 3, 4, 2, 3, 3, 4, 3, 4, 4, 5, 2, 3, 3, 4, 3, 4, 4, 5, 3, 4, 4, 5, 4, 5, 5, 6, 2, 3, 3, 4, 3, 4, 4, 5, 3, 4, 4, 5, 4, 5, 5, 6, 3, 4, 4, 5, 4, 5, 5, 6, 4, 5, 5, 6, 5, 6, 6, 7, 1, 2, 2, 3, 2, 3, 3, 4, 2, 3, 3, 4, 3, 4, 4, 5, 2, 3, 3, 4, 3, 4, 4, 5, 3, 4, 4, 5, 4, 5, 5, 6, 2, 3, 3, 4, 3, 4, 4, 5, 3, 4, 4, 5, 4, 5, 5, 6, 3, 4, 4, 5, 4, 5, 5, 6, 4, 5, 5, 6, 5, 6, 6, 7, 2, 3, 3, 4, 3, 4, 4, 5, 3, 4, 4, 5, 4, 5, 5, 6, 3, 4, 4, 5, 4, 5, 5, 6, 4, 5, 5, 6, 5, 6, 6, 7, 3, 4, 4, 5, 4, 5, 5, 6, 4, 5, 5, 6, 5, 6, 6, 7, 4, 5, 5, 6, 5, 6, 6, 7, 5, 6, 6, 7, 6, 7, 7, 8]⟩))) (.t 13), [10], none⟩,
     ⟨some 15, .bin 0 .add (.t 10) (.t 14), [7, 11], none⟩,
     ⟨some 16, .mv (.t 0), [], none⟩,
     ⟨some 17, .bin 0 .and (.t 16) (.c (.int .u32 255)), [13], none⟩,
     ⟨some 18, .sidx (.c (.lit (.string ⟨#[0, 1, 1, 2, 1, 2, 2, 3, 1, 2, 2, 3, 2, 3, 3, 4, 1, 2, 2, 3, 2, 3, 3, 4, 2, 3, 3, 4, 3, 4, 4, 5, 1, 2, 2, 3, 2, 3, 3, 4, 2, 3, 3, 4, 3, 4, 4, 5, 2, 3, 3, 4, 3, 4, 4, 5, 3, 4, 4, 5, 4, 5, 5, 6, 1, 2, 2, 3, 2, 3, 3, 4, 2, 3, 3, 4, 3, 4, 4, 5, 2, 3, 3, 4, 3, 4, 4, 5, 3, 4, 4, 5, 4, 5, 5, 6, 2, 3, 3, 4, 3, 4, 4, 5, 3, 4, 4, 5, 4, 5, 5, 6, 3, 4, 4, 5, 4, 5, 5, 6, 4, 5, 5, 6, 5, 6, 6, 7, 1, 2, 2, 3, 2, 3, 3, 4, 2, 3, 3, 4, 3, 4, 4, 5, 2, 3, 3, 4, 3, 4, 4, 5, 3, 4, 4, 5, 4, 5, 5, 6, 2, 3, 3, 4, 3, 4, 4, 5, 3, 4, 4, 5, 4, 5, 5, 6, 3, 4, 4, 5, 4, 5, 5, 6, 4, 5, 5, 6, 5, 6, 6, 7, 2, 3, 3, 4, 3, 4, 4, 5, 3, 4, 4, 5, 4, 5, 5, 6, 3, 4, 4, 5, 4, 5, 5, 6, 4, 5, 5, 6, 5, 6, 6, 7, 3, 4, 4, 5, 4, 5, 5, 6, 4, 5, 5, 6, 5, 6, 6, 7, 4, 5, 5, 6, 5, 6, 6, 7, 5, 6, 6, 7, 6, 7, 7, 8]⟩))) (.t 17), [14], none⟩,
     ⟨some 19, .bin 0 .add (.t 15) (.t 18), [12, 15], none⟩,
     ⟨some 20, .conv .i64 (.t 19), [16], none⟩,
     ⟨some 2, .mv (.t 20), [17, 0, 1, 2, 3, 4, 5, 6, 7, 8, 9, 10, 11, 12, 13, 14, 15, 16], none⟩])
  .ret))) }

/-- math/bits.OnesCount -/
def ir189 : IFn :=
 { nt := 8, res := [.t 2],
   body := (.seq (.reg [⟨some 2, .mv (.c (.int .i64 0)), [], none⟩])
 (.seq (.live [0]) (.seq (.cnd (.c (.bool false)) (.seq (.reg [⟨some 3, .mv (.t 0), [], none⟩,
       ⟨some 4, .conv .u32 (.t 3), [], none⟩,
       ⟨some 5, .call (.c (.fn (.func 227) [] [])) [.t 4], [], none⟩,
       ⟨some 2, .mv (.t 5), [], none⟩])
    .ret)
   .skip)
  (.seq (.reg [⟨some 6, .mv (.t 0), [], none⟩,
      ⟨some 7, .call (.c (.fn (.func 224) [] [])) [.t 6], [], none⟩,
      ⟨some 2, .mv (.t 7), [], none⟩])
   .ret)))) }

/-- arras/prime.step -/
def ir187 : IFn :=
 { nt := 14, res := [.t 2],
   body := (.seq (.reg [⟨some 2, .mv (.c (.bool false)), [], none⟩])
 (.seq (.live [0, 6, 7, 10, 11, 12]) (.seq (.reg [⟨some 3, .mv (.t 0), [], none⟩,
     ⟨some 4, .bin 0 .geq (.t 3) (.c (.int .u64 2)), [], none⟩,
     ⟨some 5, .mv (.t 4), [], none⟩,
     ⟨some 6, .mv (.t 0), [], some (5, true)⟩,
     ⟨some 7, .bin 0 .leq (.t 6) (.c (.int .u64 8192)), [], some (5, true)⟩,
     ⟨some 8, .pick (.t 5) (.t 7) (.c (.bool false)), [], none⟩,
     ⟨some 9, .mv (.t 8), [], none⟩,
     ⟨some 10, .mv (.t 0), [], some (9, true)⟩,
     ⟨some 11, .call (.c (.fn (.func 224) [] [])) [.t 10], [], some (9, true)⟩,
     ⟨some 12, .bin 0 .eql (.t 11) (.c (.int .i64 1)), [], some (9, true)⟩,
     ⟨some 13, .pick (.t 9) (.t 12) (.c (.bool false)), [], none⟩,
     ⟨some 2, .mv (.t 13), [], none⟩])
  .ret))) }

/-- slices.Min[[]uint64,uint64] -/
def ir229 : IFn :=
 { nt := 25, res := [.t 2],
   body := (.seq (.reg [⟨some 2, .mv (.c (.int .u64 0)), [], none⟩])
 (.seq (.live [0]) (.seq (.seq (.reg [⟨some 5, .mv (.t 0), [], none⟩,
      ⟨some 6, .len (.t 5), [], none⟩,
      ⟨some 7, .bin 0 .lss (.t 6) (.c (.int .i64 1)), [], none⟩])
   (.seq (.live [0, 7]) (.cnd (.t 7) (.reg [⟨some 8, .bad, [], none⟩,
       ⟨none, .bad, [], none⟩])
    .skip)))
  (.seq (.live [0]) (.seq (.reg [⟨some 9, .mv (.t 0), [], none⟩,
      ⟨some 10, .ia 1 (.t 9) (.c (.int .i64 0)), [], none⟩,
      ⟨some 11, .ld false 1 (.t 10), [], none⟩,
      ⟨some 3, .mv (.t 11), [], none⟩])
   (.seq (.live [0, 3]) (.seq (.seq (.reg [⟨some 4, .mv (.c (.int .i64 1)), [], none⟩])
     (.seq (.live [0, 3, 4]) (.blk 0 (.loop (.seq (.live [0, 3, 4]) (.seq (.seq (.reg [⟨some 12, .mv (.t 4), [], none⟩,
            ⟨some 13, .mv (.t 0), [], none⟩,
            ⟨some 14, .len (.t 13), [], none⟩,
            ⟨some 15, .bin 0 .lss (.t 12) (.t 14), [], none⟩])
         (.seq (.live [0, 3, 4, 15]) (.cnd (.t 15) .skip
          (.exit 0))))
        (.seq (.live [0, 3, 4]) (.seq (.blk 1 (.reg [⟨some 18, .mv (.t 3), [], none⟩,
             ⟨some 19, .mv (.t 0), [], none⟩,
             ⟨some 20, .mv (.t 4), [], none⟩,
             ⟨some 21, .ia 1 (.t 19) (.t 20), [], none⟩,
             ⟨some 22, .ld false 1 (.t 21), [], none⟩,
             ⟨some 23, .mn [.t 18, .t 22], [], none⟩,
             ⟨some 3, .mv (.t 23), [], none⟩]))
         (.seq (.live [0, 3, 4]) (.reg [⟨some 16, .mv (.t 4), [], none⟩,
            ⟨some 17, .bin 0 .add (.t 16) (.c (.int .i64 1)), [], none⟩,
            ⟨some 4, .mv (.t 17), [], none⟩]))))))))))
    (.seq (.live [3]) (.seq (.reg [⟨some 24, .mv (.t 3), [], none⟩,
        ⟨some 2, .mv (.t 24), [], none⟩])
     .ret))))))))) }

/-- arras/prime.Root -/
def ir190 : IFn :=
 { nt := 68, res := [.t 4, .t 5],
   body := (.seq (.reg [⟨some 4, .mv (.c (.int .u64 0)), [], none⟩,
    ⟨some 5, .mv (.c (.int .i64 0)), [], none⟩])
 (.seq (.live [0, 1, 14, 15, 16, 19, 20, 21, 22, 23]) (.seq (.seq (.reg [⟨some 10, .mv (.t 1), [], none⟩,
      ⟨some 11, .call (.c (.fn (.func 187) [] [])) [.t 10], [], none⟩,
      ⟨some 12, .un .not (.t 11), [], none⟩,
      ⟨some 13, .mv (.t 12), [], none⟩,
      ⟨some 14, .mv (.t 0), [], some (13, false)⟩,
      ⟨some 15, .call (.c (.fn (.func 188) [] [])) [.t 14], [], some (13, false)⟩,
      ⟨some 16, .un .not (.t 15), [], some (13, false)⟩,
      ⟨some 17, .pick (.t 13) (.c (.bool true)) (.t 16), [], none⟩,
      ⟨some 18, .mv (.t 17), [], none⟩,
      ⟨some 19, .mv (.t 0), [], some (18, false)⟩,
      ⟨some 20, .bin 0 .sub (.t 19) (.c (.int .u64 1)), [], some (18, false)⟩,
      ⟨some 21, .mv (.t 1), [], some (18, false)⟩,
      ⟨some 22, .bin 0 .rem (.t 20) (.t 21), [], some (18, false)⟩,
      ⟨some 23, .bin 0 .neq (.t 22) (.c (.int .u64 0)), [], some (18, false)⟩,
      ⟨some 24, .pick (.t 18) (.c (.bool true)) (.t 23), [], none⟩])
   (.seq (.live [0, 1, 24]) (.cnd (.t 24) (.seq (.reg [⟨some 4, .mv (.c (.int .u64 0)), [], none⟩,
        ⟨some 5, .mv (.c (.int .i64 1)), [], none⟩])
     .ret)
    .skip)))
  (.seq (.live [0, 1]) (.seq (.reg [⟨some 6, .mv (.c (.int .u64 1)), [], none⟩])
   (.seq (.live [0, 1, 6]) (.seq (.seq (.reg [⟨some 7, .mv (.c (.int .u64 2)), [], none⟩])
     (.seq (.live [0, 1, 6, 7]) (.blk 0 (.loop (.seq (.live [0, 1, 6, 7]) (.seq (.seq (.reg [⟨some 25, .mv (.t 6), [], none⟩,
            ⟨some 26, .mv (.t 1), [], none⟩,
            ⟨some 27, .bin 0 .quo (.t 26) (.c (.int .u64 2)), [], none⟩,
            ⟨some 28, .mv (.t 0), [], none⟩,
            ⟨some 29, .call (.c (.fn (.func 228) [] [])) [.t 25, .t 27, .t 28], [], none⟩,
            ⟨some 30, .mv (.t 0), [], none⟩,
            ⟨some 31, .bin 0 .sub (.t 30) (.c (.int .u64 1)), [], none⟩,
            ⟨some 32, .bin 0 .neq (.t 29) (.t 31), [], none⟩])
         (.seq (.live [0, 1, 6, 7, 32]) (.cnd (.t 32) .skip
          (.exit 0))))
        (.seq (.live [0, 1, 7]) (.seq (.blk 1 (.reg [⟨some 35, .mv (.t 7), [], none⟩,
             ⟨some 36, .mv (.t 0), [], none⟩,
             ⟨some 37, .bin 0 .sub (.t 36) (.c (.int .u64 1)), [], none⟩,
             ⟨some 38, .mv (.t 1), [], none⟩,
             ⟨some 39, .bin 0 .quo (.t 37) (.t 38), [], none⟩,
             ⟨some 40, .mv (.t 0), [], none⟩,
             ⟨some 41, .call (.c (.fn (.func 228) [] [])) [.t 35, .t 39, .t 40], [], none⟩,
             ⟨some 6, .mv (.t 41), [], none⟩]))
         (.seq (.live [0, 1, 6, 7]) (.reg [⟨some 33, .mv (.t 7), [], none⟩,
            ⟨some 34, .bin 0 .add (.t 33) (.c (.int .u64 1)), [], none⟩,
            ⟨some 7, .mv (.t 34), [], none⟩]))))))))))
    (.seq (.live [0, 1, 6]) (.seq (.reg [⟨some 42, .mv (.t 6), [], none⟩,
        ⟨some 43, .bsl true 1 (.int .u64 0) 1 [(0, .t 42)], [], none⟩,
        ⟨some 8, .mv (.t 43), [], none⟩])
     (.seq (.live [0, 1, 6, 8]) (.seq (.seq (.reg [⟨some 44, .mv (.t 6), [], none⟩,
          ⟨some 45, .mv (.t 6), [], none⟩,
          ⟨some 46, .mv (.t 0), [], none⟩,
          ⟨some 47, .call (.c (.fn (.func 193) [] [])) [.t 44, .t 45, .t 46], [], none⟩,
          ⟨some 9, .mv (.t 47), [], none⟩])
       (.seq (.live [0, 1, 8, 9]) (.blk 2 (.loop (.seq (.live [0, 1, 8, 9]) (.seq (.seq (.reg [⟨some 48, .mv (.t 8), [], none⟩,
              ⟨some 49, .len (.t 48), [], none⟩,
              ⟨some 50, .conv .u64 (.t 49), [], none⟩,
              ⟨some 51, .mv (.t 1), [], none⟩,
              ⟨some 52, .bin 0 .quo (.t 51) (.c (.int .u64 2)), [], none⟩,
              ⟨some 53, .bin 0 .lss (.t 50) (.t 52), [], none⟩])
           (.seq (.live [0, 1, 8, 9, 53]) (.cnd (.t 53) .skip
            (.exit 2))))
          (.seq (.live [0, 1, 8, 9]) (.blk 3 (.reg [⟨some 54, .mv (.t 8), [], none⟩,
              ⟨some 55, .mv (.t 8), [], none⟩,
              ⟨some 56, .mv (.t 8), [], none⟩,
              ⟨some 57, .len (.t 56), [], none⟩,
              ⟨some 58, .bin 0 .sub (.t 57) (.c (.int .i64 1)), [], none⟩,
              ⟨some 59, .ia 1 (.t 55) (.t 58), [], none⟩,
              ⟨some 60, .ld false 1 (.t 59), [], none⟩,
              ⟨some 61, .mv (.t 9), [], none⟩,
              ⟨some 62, .mv (.t 0), [], none⟩,
              ⟨some 63, .call (.c (.fn (.func 193) [] [])) [.t 60, .t 61, .t 62], [], none⟩,
              ⟨some 64, .bsl true 1 (.int .u64 0) 1 [(0, .t 63)], [], none⟩,
              ⟨some 65, .app true 1 8 (.t 54) (.t 64), [], none⟩,
              ⟨some 8, .mv (.t 65), [], none⟩])))))))))
      (.seq (.live [8]) (.seq (.reg [⟨some 66, .mv (.t 8), [], none⟩,
          ⟨some 67, .call (.c (.fn (.func 229) [] [])) [.t 66], [], none⟩,
          ⟨some 4, .mv (.t 67), [], none⟩,
          ⟨some 5, .mv (.c (.int .i64 0)), [], none⟩])
       .ret))))))))))))) }

/-- arras/word.Sub -/
def ir177 : IFn :=
 { nt := 26, res := [.t 6],
   body := (.seq (.reg [⟨some 6, .mv (.c (.int .u64 0)), [], none⟩])
 (.seq (.live [0, 1, 2]) (.seq (.seq (.reg [⟨some 7, .mv (.t 2), [], none⟩,
      ⟨some 8, .bin 0 .eql (.t 7) (.c (.int .u64 0)), [], none⟩])
   (.seq (.live [0, 1, 2, 8]) (.cnd (.t 8) (.seq (.reg [⟨some 6, .mv (.c (.int .u64 0)), [], none⟩])
     .ret)
    .skip)))
  (.seq (.live [0, 1, 2]) (.seq (.drw [⟨some 9, .mv (.t 0), [], none⟩,
      ⟨some 10, .mv (.t 2), [], none⟩,
      ⟨some 11, .bin 0 .rem (.t 9) (.t 10), [0, 1], none⟩,
      ⟨some 12, .mv (.t 1), [], none⟩,
      ⟨some 13, .mv (.t 2), [], none⟩,
      ⟨some 14, .bin 0 .rem (.t 12) (.t 13), [3, 4], none⟩,
      ⟨some 0, .mv (.t 11), [2, 0, 1], none⟩,
      ⟨some 1, .mv (.t 14), [5, 6, 0, 1, 2, 3, 4], none⟩])
   (.seq (.live [0, 1, 2]) (.seq (.seq (.reg [⟨some 15, .mv (.t 0), [], none⟩,
        ⟨some 16, .mv (.t 1), [], none⟩,
        ⟨some 17, .bin 0 .geq (.t 15) (.t 16), [], none⟩])
     (.seq (.live [0, 1, 2, 17]) (.cnd (.t 17) (.seq (.reg [⟨some 18, .mv (.t 0), [], none⟩,
          ⟨some 19, .mv (.t 1), [], none⟩,
          ⟨some 20, .bin 0 .sub (.t 18) (.t 19), [], none⟩,
          ⟨some 6, .mv (.t 20), [], none⟩])
       .ret)
      .skip)))
    (.seq (.live [0, 1, 2]) (.seq (.reg [⟨some 21, .mv (.t 0), [], none⟩,
        ⟨some 22, .mv (.t 2), [], none⟩,
        ⟨some 23, .mv (.t 1), [], none⟩,
        ⟨some 24, .bin 0 .sub (.t 22) (.t 23), [], none⟩,
        ⟨some 25, .bin 0 .add (.t 21) (.t 24), [], none⟩,
        ⟨some 6, .mv (.t 25), [], none⟩])
     .ret))))))))) }

/-- arras/word.Inv -/
def ir191 : IFn :=
 { nt := 39, res := [.t 4, .t 5],
   body := (.seq (.reg [⟨some 4, .mv (.c (.int .u64 0)), [], none⟩,
    ⟨some 5, .mv (.c (.bool false)), [], none⟩])
 (.seq (.live [0, 1]) (.seq (.seq (.reg [⟨some 11, .mv (.t 1), [], none⟩,
      ⟨some 12, .bin 0 .lss (.t 11) (.c (.int .u64 2)), [], none⟩])
   (.seq (.live [0, 1, 12]) (.cnd (.t 12) (.seq (.reg [⟨some 4, .mv (.c (.int .u64 0)), [], none⟩,
        ⟨some 5, .mv (.c (.bool false)), [], none⟩])
     .ret)
    .skip)))
  (.seq (.live [0, 1]) (.seq (.drw [⟨some 13, .mv (.t 1), [], none⟩,
      ⟨some 14, .mv (.t 0), [], none⟩,
      ⟨some 15, .mv (.t 1), [], none⟩,
      ⟨some 16, .bin 0 .rem (.t 14) (.t 15), [1, 2], none⟩,
      ⟨some 6, .mv (.t 13), [0], none⟩,
      ⟨some 7, .mv (.t 16), [3, 4, 0, 1, 2], none⟩])
   (.seq (.live [1, 6, 7]) (.seq (.reg [⟨some 8, .mv (.c (.int .u64 0)), [], none⟩,
       ⟨some 9, .mv (.c (.int .u64 1)), [], none⟩])
    (.seq (.live [1, 6, 7, 8, 9]) (.seq (.blk 0 (.loop (.seq (.live [1, 6, 7, 8, 9]) (.seq (.seq (.reg [⟨some 17, .mv (.t 7), [], none⟩,
            ⟨some 18, .bin 0 .neq (.t 17) (.c (.int .u64 0)), [], none⟩])
         (.seq (.live [1, 6, 7, 8, 9, 18]) (.cnd (.t 18) .skip
          (.exit 0))))
        (.seq (.live [1, 6, 7, 8, 9]) (.blk 1 (.seq (.reg [⟨some 19, .mv (.t 6), [], none⟩,
             ⟨some 20, .mv (.t 7), [], none⟩,
             ⟨some 21, .bin 0 .quo (.t 19) (.t 20), [], none⟩,
             ⟨some 10, .mv (.t 21), [], none⟩])
          (.seq (.live [1, 6, 7, 8, 9, 10]) (.seq (.reg [⟨some 22, .mv (.t 7), [], none⟩,
              ⟨some 23, .mv (.t 6), [], none⟩,
              ⟨some 24, .mv (.t 10), [], none⟩,
              ⟨some 25, .mv (.t 7), [], none⟩,
              ⟨some 26, .bin 0 .mul (.t 24) (.t 25), [], none⟩,
              ⟨some 27, .bin 0 .sub (.t 23) (.t 26), [], none⟩,
              ⟨some 6, .mv (.t 22), [], none⟩,
              ⟨some 7, .mv (.t 27), [], none⟩])
           (.seq (.live [1, 6, 7, 8, 9, 10]) (.reg [⟨some 28, .mv (.t 9), [], none⟩,
              ⟨some 29, .mv (.t 8), [], none⟩,
              ⟨some 30, .mv (.t 10), [], none⟩,
              ⟨some 31, .mv (.t 9), [], none⟩,
              ⟨some 32, .mv (.t 1), [], none⟩,
              ⟨some 33, .call (.c (.fn (.func 193) [] [])) [.t 30, .t 31, .t 32], [], none⟩,
              ⟨some 34, .mv (.t 1), [], none⟩,
              ⟨some 35, .call (.c (.fn (.func 177) [] [])) [.t 29, .t 33, .t 34], [], none⟩,
              ⟨some 8, .mv (.t 28), [], none⟩,
              ⟨some 9, .mv (.t 35), [], none⟩])))))))))))
     (.seq (.live [6, 8]) (.seq (.seq (.reg [⟨some 36, .mv (.t 6), [], none⟩,
          ⟨some 37, .bin 0 .neq (.t 36) (.c (.int .u64 1)), [], none⟩])
       (.seq (.live [8, 37]) (.cnd (.t 37) (.seq (.reg [⟨some 4, .mv (.c (.int .u64 0)), [], none⟩,
            ⟨some 5, .mv (.c (.bool false)), [], none⟩])
         .ret)
        .skip)))
      (.seq (.live [8]) (.seq (.reg [⟨some 38, .mv (.t 8), [], none⟩,
          ⟨some 4, .mv (.t 38), [], none⟩,
          ⟨some 5, .mv (.c (.bool true)), [], none⟩])
       .ret))))))))))))) }

/-- arras/ntt.New$1 -/
def ir192 : IFn :=
 { nt := 24, res := [.t 4],
   body := (.seq (.reg [⟨some 4, .mv (.c (.lit (.slice none 0 0))), [], none⟩])
 (.seq (.live [0, 1, 2]) (.seq (.reg [⟨some 6, .bsl true 1 (.int .u64 0) 1 [(0, .c (.int .u64 1))], [], none⟩,
     ⟨some 5, .mv (.t 6), [], none⟩])
  (.seq (.live [0, 1, 2, 5]) (.seq (.blk 0 (.loop (.seq (.live [0, 1, 2, 5]) (.seq (.seq (.reg [⟨some 7, .mv (.t 5), [], none⟩,
          ⟨some 8, .len (.t 7), [], none⟩,
          ⟨some 9, .ld false 1 (.t 1), [], none⟩,
          ⟨some 10, .bin 0 .lss (.t 8) (.t 9), [], none⟩])
       (.seq (.live [0, 1, 2, 5, 10]) (.cnd (.t 10) .skip
        (.exit 0))))
      (.seq (.live [0, 1, 2, 5]) (.blk 1 (.drw [⟨some 11, .mv (.t 5), [], none⟩,
          ⟨some 12, .mv (.t 5), [], none⟩,
          ⟨some 13, .mv (.t 5), [], none⟩,
          ⟨some 14, .len (.t 13), [2], none⟩,
          ⟨some 15, .bin 0 .sub (.t 14) (.c (.int .i64 1)), [3], none⟩,
          ⟨some 16, .ia 1 (.t 12) (.t 15), [1, 4], none⟩,
          ⟨some 17, .ld false 1 (.t 16), [5], none⟩,
          ⟨some 18, .mv (.t 0), [], none⟩,
          ⟨some 19, .ld false 1 (.t 2), [], none⟩,
          ⟨some 20, .call (.c (.fn (.func 193) [] [])) [.t 17, .t 18, .t 19], [6, 7, 8], none⟩,
          ⟨some 21, .bsl true 1 (.int .u64 0) 1 [(0, .t 20)], [9], none⟩,
          ⟨some 22, .app true 1 8 (.t 11) (.t 21), [0, 10, 9], none⟩,
          ⟨some 5, .mv (.t 22), [11, 0, 1, 2, 3, 4, 5, 6, 7, 8, 9, 10], none⟩])))))))
   (.seq (.live [5]) (.seq (.reg [⟨some 23, .mv (.t 5), [], none⟩,
       ⟨some 4, .mv (.t 23), [], none⟩])
    .ret))))))) }

/-- arras/ntt.New -/
def ir125 : IFn :=
 { nt := 81, res := [.t 4, .t 5],
   body := (.seq (.reg [⟨some 2, .box 1 (.t 0), [], none⟩,
    ⟨some 3, .box 1 (.t 1), [], none⟩,
    ⟨some 4, .mv (.c (.lit (.pointer none))), [], none⟩,
    ⟨some 5, .mv (.c (.int .i64 0)), [], none⟩])
 (.seq (.live [2, 3, 15, 16, 19, 20, 21, 22, 25, 26, 29, 30, 31, 32, 33, 34]) (.seq (.seq (.reg [⟨some 12, .ld false 1 (.t 2), [], none⟩,
      ⟨some 13, .bin 0 .lss (.t 12) (.c (.int .i64 2)), [], none⟩,
      ⟨some 14, .mv (.t 13), [], none⟩,
      ⟨some 15, .ld false 1 (.t 2), [], some (14, false)⟩,
      ⟨some 16, .bin 0 .gtr (.t 15) (.c (.int .i64 4096)), [], some (14, false)⟩,
      ⟨some 17, .pick (.t 14) (.c (.bool true)) (.t 16), [], none⟩,
      ⟨some 18, .mv (.t 17), [], none⟩,
      ⟨some 19, .ld false 1 (.t 2), [], some (18, false)⟩,
      ⟨some 20, .conv .u64 (.t 19), [], some (18, false)⟩,
      ⟨some 21, .call (.c (.fn (.func 189) [] [])) [.t 20], [], some (18, false)⟩,
      ⟨some 22, .bin 0 .neq (.t 21) (.c (.int .i64 1)), [], some (18, false)⟩,
      ⟨some 23, .pick (.t 18) (.c (.bool true)) (.t 22), [], none⟩,
      ⟨some 24, .mv (.t 23), [], none⟩,
      ⟨some 25, .ld false 1 (.t 3), [], some (24, false)⟩,
      ⟨some 26, .bin 0 .geq (.t 25) (.c (.int .u64 2305843009213693952)), [], some (24, false)⟩,
      ⟨some 27, .pick (.t 24) (.c (.bool true)) (.t 26), [], none⟩,
      ⟨some 28, .mv (.t 27), [], none⟩,
      ⟨some 29, .ld false 1 (.t 3), [], some (28, false)⟩,
      ⟨some 30, .ld false 1 (.t 2), [], some (28, false)⟩,
      ⟨some 31, .bin 0 .mul (.c (.int .i64 2)) (.t 30), [], some (28, false)⟩,
      ⟨some 32, .conv .u64 (.t 31), [], some (28, false)⟩,
      ⟨some 33, .bin 0 .rem (.t 29) (.t 32), [], some (28, false)⟩,
      ⟨some 34, .bin 0 .neq (.t 33) (.c (.int .u64 1)), [], some (28, false)⟩,
      ⟨some 35, .pick (.t 28) (.c (.bool true)) (.t 34), [], none⟩])
   (.seq (.live [2, 3, 35]) (.cnd (.t 35) (.seq (.reg [⟨some 4, .mv (.c (.lit (.pointer none))), [], none⟩,
        ⟨some 5, .mv (.c (.int .i64 1)), [], none⟩])
     .ret)
    .skip)))
  (.seq (.live [2, 3]) (.seq (.reg [⟨some 37, .ld false 1 (.t 3), [], none⟩,
      ⟨some 38, .ld false 1 (.t 2), [], none⟩,
      ⟨some 39, .bin 0 .mul (.c (.int .i64 2)) (.t 38), [], none⟩,
      ⟨some 40, .conv .u64 (.t 39), [], none⟩,
      ⟨some 41, .call (.c (.fn (.func 190) [] [])) [.t 37, .t 40], [], none⟩,
      ⟨some 36, .mv (.t 41), [], none⟩,
      ⟨some 42, .ext (.t 36) 0, [], none⟩,
      ⟨some 43, .ext (.t 36) 1, [], none⟩,
      ⟨some 6, .mv (.t 42), [], none⟩,
      ⟨some 7, .mv (.t 43), [], none⟩])
   (.seq (.live [2, 3, 6, 7]) (.seq (.seq (.reg [⟨some 44, .mv (.t 7), [], none⟩,
        ⟨some 45, .bin 0 .neq (.t 44) (.c (.int .i64 0)), [], none⟩])
     (.seq (.live [2, 3, 6, 7, 45]) (.cnd (.t 45) (.seq (.reg [⟨some 46, .mv (.t 7), [], none⟩,
          ⟨some 4, .mv (.c (.lit (.pointer none))), [], none⟩,
          ⟨some 5, .mv (.t 46), [], none⟩])
       .ret)
      .skip)))
    (.seq (.live [2, 3, 6]) (.seq (.reg [⟨some 47, .ld false 1 (.t 2), [], none⟩,
        ⟨some 48, .ld false 1 (.t 3), [], none⟩,
        ⟨some 49, .build [.int .i64 0, .int .u64 0, .int .u64 0, .lit (.slice none 0 0), .lit (.slice none 0 0)] [(0, 1, .t 47), (1, 1, .t 48)], [], none⟩,
        ⟨some 50, .box 5 (.t 49), [], none⟩,
        ⟨some 8, .mv (.t 50), [], none⟩])
     (.seq (.live [2, 3, 6, 8]) (.seq (.reg [⟨some 52, .mv (.t 8), [], none⟩,
         ⟨some 53, .ld false 1 (.t 2), [], none⟩,
         ⟨some 54, .conv .u64 (.t 53), [], none⟩,
         ⟨some 55, .ld false 1 (.t 3), [], none⟩,
         ⟨some 56, .call (.c (.fn (.func 191) [] [])) [.t 54, .t 55], [], none⟩,
         ⟨some 51, .mv (.t 56), [], none⟩,
         ⟨some 57, .ext (.t 51) 0, [], none⟩,
         ⟨some 58, .ext (.t 51) 1, [], none⟩,
         ⟨some 59, .nilc (.t 52), [], none⟩,
         ⟨some 60, .fa false 1 2 (.t 59), [], none⟩,
         ⟨none, .st 1 (.t 60) (.t 57), [], none⟩])
      (.seq (.live [2, 3, 6, 8]) (.seq (.reg [⟨some 62, .mv (.t 6), [], none⟩,
          ⟨some 63, .ld false 1 (.t 3), [], none⟩,
          ⟨some 64, .call (.c (.fn (.func 191) [] [])) [.t 62, .t 63], [], none⟩,
          ⟨some 61, .mv (.t 64), [], none⟩,
          ⟨some 65, .ext (.t 61) 0, [], none⟩,
          ⟨some 66, .ext (.t 61) 1, [], none⟩,
          ⟨some 9, .mv (.t 65), [], none⟩,
          ⟨some 10, .mv (.t 66), [], none⟩])
       (.seq (.live [2, 3, 6, 8, 9]) (.seq (.reg [⟨some 67, .mkfn (.func 192) [] [.t 2, .t 3], [], none⟩,
           ⟨some 11, .mv (.t 67), [], none⟩])
        (.seq (.live [6, 8, 9, 11]) (.seq (.reg [⟨some 68, .mv (.t 8), [], none⟩,
            ⟨some 69, .mv (.t 8), [], none⟩,
            ⟨some 70, .mv (.t 11), [], none⟩,
            ⟨some 71, .mv (.t 6), [], none⟩,
            ⟨some 72, .call (.t 70) [.t 71], [], none⟩,
            ⟨some 73, .mv (.t 11), [], none⟩,
            ⟨some 74, .mv (.t 9), [], none⟩,
            ⟨some 75, .call (.t 73) [.t 74], [], none⟩,
            ⟨some 76, .nilc (.t 68), [], none⟩,
            ⟨some 77, .fa false 1 3 (.t 76), [], none⟩,
            ⟨none, .st 1 (.t 77) (.t 72), [], none⟩,
            ⟨some 78, .nilc (.t 69), [], none⟩,
            ⟨some 79, .fa false 1 4 (.t 78), [], none⟩,
            ⟨none, .st 1 (.t 79) (.t 75), [], none⟩])
         (.seq (.live [8]) (.seq (.reg [⟨some 80, .mv (.t 8), [], none⟩,
             ⟨some 4, .mv (.t 80), [], none⟩,
             ⟨some 5, .mv (.c (.int .i64 0)), [], none⟩])
          .ret))))))))))))))))))) }

/-- slices.Clone[[]uint64,uint64] -/
def ir184 : IFn :=
 { nt := 8, res := [.t 2],
   body := (.seq (.reg [⟨some 2, .mv (.c (.lit (.slice none 0 0))), [], none⟩])
 (.seq (.live [0]) (.seq (.seq (.reg [⟨some 3, .mv (.t 0), [], none⟩,
      ⟨some 4, .bin 3 .eql (.t 3) (.c (.lit (.slice none 0 0))), [], none⟩])
   (.seq (.live [0, 4]) (.cnd (.t 4) (.seq (.reg [⟨some 2, .mv (.c (.lit (.slice none 0 0))), [], none⟩])
     .ret)
    .skip)))
  (.seq (.live [0]) (.seq (.reg [⟨some 5, .bsl true 1 (.int .u64 0) 0 [], [], none⟩,
      ⟨some 6, .mv (.t 0), [], none⟩,
      ⟨some 7, .app true 1 8 (.t 5) (.t 6), [], none⟩,
      ⟨some 2, .mv (.t 7), [], none⟩])
   .ret))))) }

/-- arras/ring.New -/
def ir121 : IFn :=
 { nt := 58, res := [.t 4, .t 5],
   body := (.seq (.reg [⟨some 4, .mv (.c (.lit (.pointer none))), [], none⟩,
    ⟨some 5, .mv (.c (.int .i64 0)), [], none⟩])
 (.seq (.live [0, 1, 15, 16, 17, 40, 41, 42, 43, 44]) (.seq (.seq (.reg [⟨some 11, .mv (.t 1), [], none⟩,
      ⟨some 12, .len (.t 11), [], none⟩,
      ⟨some 13, .bin 0 .lss (.t 12) (.c (.int .i64 1)), [], none⟩,
      ⟨some 14, .mv (.t 13), [], none⟩,
      ⟨some 15, .mv (.t 1), [], some (14, false)⟩,
      ⟨some 16, .len (.t 15), [], some (14, false)⟩,
      ⟨some 17, .bin 0 .gtr (.t 16) (.c (.int .i64 24)), [], some (14, false)⟩,
      ⟨some 18, .pick (.t 14) (.c (.bool true)) (.t 17), [], none⟩])
   (.seq (.live [0, 1, 18, 40, 41, 42, 43, 44]) (.cnd (.t 18) (.seq (.reg [⟨some 4, .mv (.c (.lit (.pointer none))), [], none⟩,
        ⟨some 5, .mv (.c (.int .i64 1)), [], none⟩])
     .ret)
    .skip)))
  (.seq (.live [0, 1, 40, 41, 42, 43, 44]) (.seq (.reg [⟨some 19, .mv (.t 0), [], none⟩,
      ⟨some 20, .mv (.t 1), [], none⟩,
      ⟨some 21, .call (.c (.fn (.func 184) [] [])) [.t 20], [], none⟩,
      ⟨some 22, .build [.int .i64 0, .lit (.slice none 0 0), .lit (.slice none 0 0)] [(0, 1, .t 19), (1, 1, .t 21)], [], none⟩,
      ⟨some 23, .box 3 (.t 22), [], none⟩,
      ⟨some 6, .mv (.t 23), [], none⟩])
   (.seq (.live [0, 1, 6, 40, 41, 42, 43, 44]) (.seq (.seq (.reg [⟨some 24, .mv (.t 1), [], none⟩,
        ⟨some 25, .len (.t 24), [], none⟩,
        ⟨some 26, .mv (.c (.int .i64 0)), [], none⟩])
     (.seq (.live [0, 1, 6, 24, 25, 26, 40, 41, 42, 43, 44]) (.blk 0 (.loop (.seq (.live [0, 1, 6, 24, 25, 26, 40, 41, 42, 43, 44]) (.seq (.reg [⟨some 27, .bin 0 .lss (.t 26) (.t 25), [], none⟩])
        (.seq (.live [0, 1, 6, 24, 25, 26, 27, 40, 41, 42, 43, 44]) (.seq (.cnd (.t 27) .skip
          (.exit 0))
         (.seq (.blk 1 (.seq (.reg [⟨some 28, .mv (.t 26), [], none⟩,
               ⟨some 29, .ia 1 (.t 24) (.t 26), [], none⟩,
               ⟨some 30, .ld false 1 (.t 29), [], none⟩,
               ⟨some 7, .mv (.t 28), [], none⟩,
               ⟨some 8, .mv (.t 30), [], none⟩])
            (.seq (.live [0, 1, 6, 7, 8, 24, 25, 26, 40, 41, 42, 43, 44]) (.seq (.reg [⟨some 32, .mv (.t 0), [], none⟩,
                ⟨some 33, .mv (.t 8), [], none⟩,
                ⟨some 34, .call (.c (.fn (.func 125) [] [])) [.t 32, .t 33], [], none⟩,
                ⟨some 31, .mv (.t 34), [], none⟩,
                ⟨some 35, .ext (.t 31) 0, [], none⟩,
                ⟨some 36, .ext (.t 31) 1, [], none⟩,
                ⟨some 9, .mv (.t 35), [], none⟩,
                ⟨some 10, .mv (.t 36), [], none⟩])
             (.seq (.live [0, 1, 6, 7, 8, 9, 10, 24, 25, 26, 40, 41, 42, 43, 44]) (.seq (.seq (.reg [⟨some 37, .mv (.t 10), [], none⟩,
                  ⟨some 38, .bin 0 .neq (.t 37) (.c (.int .i64 0)), [], none⟩,
                  ⟨some 39, .mv (.t 38), [], none⟩,
                  ⟨some 40, .mv (.t 1), [], some (39, false)⟩,
                  ⟨some 41, .mv (.t 7), [], some (39, false)⟩,
                  ⟨some 42, .slc 1 (.t 40) none (some (.t 41)) none, [], some (39, false)⟩,
                  ⟨some 43, .mv (.t 8), [], some (39, false)⟩,
                  ⟨some 44, .call (.c (.fn (.func 185) [] [])) [.t 42, .t 43], [], some (39, false)⟩,
                  ⟨some 45, .pick (.t 39) (.c (.bool true)) (.t 44), [], none⟩])
               (.seq (.live [0, 1, 6, 9, 24, 25, 26, 40, 41, 42, 43, 44, 45]) (.cnd (.t 45) (.seq (.reg [⟨some 4, .mv (.c (.lit (.pointer none))), [], none⟩,
                    ⟨some 5, .mv (.c (.int .i64 1)), [], none⟩])
                 .ret)
                .skip)))
              (.seq (.live [0, 1, 6, 9, 24, 25, 26, 40, 41, 42, 43, 44]) (.reg [⟨some 46, .mv (.t 6), [], none⟩,
                 ⟨some 47, .mv (.t 6), [], none⟩,
                 ⟨some 48, .nilc (.t 47), [], none⟩,
                 ⟨some 49, .fa false 1 2 (.t 48), [], none⟩,
                 ⟨some 50, .ld false 1 (.t 49), [], none⟩,
                 ⟨some 51, .mv (.t 9), [], none⟩,
                 ⟨some 52, .bsl false 1 (.lit (.pointer none)) 1 [(0, .t 51)], [], none⟩,
                 ⟨some 53, .app false 1 8 (.t 50) (.t 52), [], none⟩,
                 ⟨some 54, .nilc (.t 46), [], none⟩,
                 ⟨some 55, .fa false 1 2 (.t 54), [], none⟩,
                 ⟨none, .st 1 (.t 55) (.t 53), [], none⟩]))))))))
          (.seq (.live [0, 1, 6, 24, 25, 26, 40, 41, 42, 43, 44]) (.reg [⟨some 56, .bin 0 .add (.t 26) (.c (.int .i64 1)), [], none⟩,
             ⟨some 26, .mv (.t 56), [], none⟩])))))))))))
    (.seq (.live [6]) (.seq (.reg [⟨some 57, .mv (.t 6), [], none⟩,
        ⟨some 4, .mv (.t 57), [], none⟩,
        ⟨some 5, .mv (.c (.int .i64 0)), [], none⟩])
     .ret))))))))) }

/-- arras/prime.Search -/
def ir124 : IFn :=
 { nt := 68, res := [.t 6, .t 7],
   body := (.seq (.reg [⟨some 6, .mv (.c (.lit (.slice none 0 0))), [], none⟩,
    ⟨some 7, .mv (.c (.int .i64 0)), [], none⟩])
 (.seq (.live [0, 1, 2, 14, 15, 18, 19, 20, 23, 24, 27, 28, 42, 43, 44, 45, 46, 47]) (.seq (.seq (.reg [⟨some 11, .mv (.t 0), [], none⟩,
      ⟨some 12, .bin 0 .lss (.t 11) (.c (.int .i64 4)), [], none⟩,
      ⟨some 13, .mv (.t 12), [], none⟩,
      ⟨some 14, .mv (.t 0), [], some (13, false)⟩,
      ⟨some 15, .bin 0 .gtr (.t 14) (.c (.int .i64 61)), [], some (13, false)⟩,
      ⟨some 16, .pick (.t 13) (.c (.bool true)) (.t 15), [], none⟩,
      ⟨some 17, .mv (.t 16), [], none⟩,
      ⟨some 18, .mv (.t 1), [], some (17, false)⟩,
      ⟨some 19, .call (.c (.fn (.func 187) [] [])) [.t 18], [], some (17, false)⟩,
      ⟨some 20, .un .not (.t 19), [], some (17, false)⟩,
      ⟨some 21, .pick (.t 17) (.c (.bool true)) (.t 20), [], none⟩,
      ⟨some 22, .mv (.t 21), [], none⟩,
      ⟨some 23, .mv (.t 2), [], some (22, false)⟩,
      ⟨some 24, .bin 0 .lss (.t 23) (.c (.int .i64 1)), [], some (22, false)⟩,
      ⟨some 25, .pick (.t 22) (.c (.bool true)) (.t 24), [], none⟩,
      ⟨some 26, .mv (.t 25), [], none⟩,
      ⟨some 27, .mv (.t 2), [], some (26, false)⟩,
      ⟨some 28, .bin 0 .gtr (.t 27) (.c (.int .i64 16)), [], some (26, false)⟩,
      ⟨some 29, .pick (.t 26) (.c (.bool true)) (.t 28), [], none⟩])
   (.seq (.live [0, 1, 2, 29, 42, 43, 44, 45, 46, 47]) (.cnd (.t 29) (.seq (.reg [⟨some 6, .mv (.c (.lit (.slice none 0 0))), [], none⟩,
        ⟨some 7, .mv (.c (.int .i64 1)), [], none⟩])
     .ret)
    .skip)))
  (.seq (.live [0, 1, 2, 42, 43, 44, 45, 46, 47]) (.seq (.reg [⟨some 8, .mv (.c (.lit (.slice none 0 0))), [], none⟩])
   (.seq (.live [0, 1, 2, 8, 42, 43, 44, 45, 46, 47]) (.seq (.reg [⟨some 30, .mv (.t 0), [], none⟩,
       ⟨some 31, .bin 0 .sub (.t 30) (.c (.int .i64 1)), [], none⟩,
       ⟨some 32, .conv .u64 (.t 31), [], none⟩,
       ⟨some 33, .bin 0 .shl (.c (.int .u64 1)) (.t 32), [], none⟩,
       ⟨some 9, .mv (.t 33), [], none⟩])
    (.seq (.live [1, 2, 8, 9, 42, 43, 44, 45, 46, 47]) (.seq (.seq (.reg [⟨some 34, .mv (.t 9), [], none⟩,
         ⟨some 35, .bin 0 .mul (.c (.int .u64 2)) (.t 34), [], none⟩,
         ⟨some 36, .bin 0 .sub (.t 35) (.c (.int .u64 2)), [], none⟩,
         ⟨some 37, .mv (.t 1), [], none⟩,
         ⟨some 38, .bin 0 .quo (.t 36) (.t 37), [], none⟩,
         ⟨some 10, .mv (.t 38), [], none⟩])
      (.seq (.live [1, 2, 8, 9, 10, 42, 43, 44, 45, 46, 47]) (.blk 0 (.loop (.seq (.live [1, 2, 8, 9, 10, 42, 43, 44, 45, 46, 47]) (.seq (.seq (.reg [⟨some 39, .mv (.t 10), [], none⟩,
             ⟨some 40, .bin 0 .gtr (.t 39) (.c (.int .u64 0)), [], none⟩,
             ⟨some 41, .mv (.t 40), [], none⟩,
             ⟨some 42, .mv (.t 10), [], some (41, true)⟩,
             ⟨some 43, .mv (.t 1), [], some (41, true)⟩,
             ⟨some 44, .bin 0 .mul (.t 42) (.t 43), [], some (41, true)⟩,
             ⟨some 45, .bin 0 .add (.t 44) (.c (.int .u64 1)), [], some (41, true)⟩,
             ⟨some 46, .mv (.t 9), [], some (41, true)⟩,
             ⟨some 47, .bin 0 .gtr (.t 45) (.t 46), [], some (41, true)⟩,
             ⟨some 48, .pick (.t 41) (.t 47) (.c (.bool false)), [], none⟩])
          (.seq (.live [1, 2, 8, 9, 10, 42, 43, 44, 45, 46, 47, 48]) (.cnd (.t 48) .skip
           (.exit 0))))
         (.seq (.live [1, 2, 8, 9, 10, 42, 43, 44, 45, 46, 47]) (.seq (.blk 1 (.seq (.reg [⟨some 51, .mv (.t 10), [], none⟩,
               ⟨some 52, .mv (.t 1), [], none⟩,
               ⟨some 53, .bin 0 .mul (.t 51) (.t 52), [], none⟩,
               ⟨some 54, .bin 0 .add (.t 53) (.c (.int .u64 1)), [], none⟩,
               ⟨some 55, .call (.c (.fn (.func 188) [] [])) [.t 54], [], none⟩])
            (.seq (.live [1, 2, 8, 9, 10, 42, 43, 44, 45, 46, 47, 55]) (.cnd (.t 55) (.seq (.reg [⟨some 56, .mv (.t 8), [], none⟩,
                 ⟨some 57, .mv (.t 10), [], none⟩,
                 ⟨some 58, .mv (.t 1), [], none⟩,
                 ⟨some 59, .bin 0 .mul (.t 57) (.t 58), [], none⟩,
                 ⟨some 60, .bin 0 .add (.t 59) (.c (.int .u64 1)), [], none⟩,
                 ⟨some 61, .bsl true 1 (.int .u64 0) 1 [(0, .t 60)], [], none⟩,
                 ⟨some 62, .app true 1 8 (.t 56) (.t 61), [], none⟩,
                 ⟨some 8, .mv (.t 62), [], none⟩])
              (.seq (.live [1, 2, 8, 9, 10, 42, 43, 44, 45, 46, 47]) (.seq (.reg [⟨some 63, .mv (.t 8), [], none⟩,
                  ⟨some 64, .len (.t 63), [], none⟩,
                  ⟨some 65, .mv (.t 2), [], none⟩,
                  ⟨some 66, .bin 0 .eql (.t 64) (.t 65), [], none⟩])
               (.seq (.live [1, 2, 8, 9, 10, 42, 43, 44, 45, 46, 47, 66]) (.cnd (.t 66) (.seq (.reg [⟨some 67, .mv (.t 8), [], none⟩,
                    ⟨some 6, .mv (.t 67), [], none⟩,
                    ⟨some 7, .mv (.c (.int .i64 0)), [], none⟩])
                 .ret)
                .skip)))))
             .skip))))
          (.seq (.live [1, 2, 8, 9, 10, 42, 43, 44, 45, 46, 47]) (.reg [⟨some 49, .mv (.t 10), [], none⟩,
             ⟨some 50, .bin 0 .sub (.t 49) (.c (.int .u64 1)), [], none⟩,
             ⟨some 10, .mv (.t 50), [], none⟩]))))))))))
     (.seq (.live []) (.seq (.reg [⟨some 6, .mv (.c (.lit (.slice none 0 0))), [], none⟩,
         ⟨some 7, .mv (.c (.int .i64 7)), [], none⟩])
      .ret))))))))))) }

/-- arras/scale.New -/
def ir50 : IFn :=
 { nt := 66, res := [.t 2, .t 3],
   body := (.seq (.reg [⟨some 1, .box 4 (.t 0), [], none⟩,
    ⟨some 2, .mv (.c (.lit (.pointer none))), [], none⟩,
    ⟨some 3, .mv (.c (.int .i64 0)), [], none⟩])
 (.seq (.live [1]) (.seq (.seq (.reg [⟨some 7, .ld true 4 (.t 1), [], none⟩,
      ⟨some 8, .call (.c (.fn (.func 120) [] [])) [.t 7], [], none⟩,
      ⟨some 4, .mv (.t 8), [], none⟩])
   (.seq (.live [1, 4]) (.seq (.reg [⟨some 9, .mv (.t 4), [], none⟩,
       ⟨some 10, .bin 0 .neq (.t 9) (.c (.int .i64 0)), [], none⟩])
    (.seq (.live [1, 4, 10]) (.cnd (.t 10) (.seq (.reg [⟨some 11, .mv (.t 4), [], none⟩,
         ⟨some 2, .mv (.c (.lit (.pointer none))), [], none⟩,
         ⟨some 3, .mv (.t 11), [], none⟩])
      .ret)
     .skip)))))
  (.seq (.live [1]) (.seq (.reg [⟨some 12, .ld true 4 (.t 1), [], none⟩,
      ⟨some 13, .build [.int .i64 0, .int .u64 0, .lit (.slice none 0 0), .int .i64 0, .lit (.pointer none), .lit (.pointer none), .lit (.slice none 0 0)] [(0, 4, .t 12)], [], none⟩,
      ⟨some 14, .box 7 (.t 13), [], none⟩,
      ⟨some 5, .mv (.t 14), [], none⟩])
   (.seq (.live [1, 5]) (.seq (.reg [⟨some 16, .mv (.t 5), [], none⟩,
       ⟨some 17, .fa false 1 0 (.t 1), [], none⟩,
       ⟨some 18, .ld false 1 (.t 17), [], none⟩,
       ⟨some 19, .fa false 1 2 (.t 1), [], none⟩,
       ⟨some 20, .ld false 1 (.t 19), [], none⟩,
       ⟨some 21, .call (.c (.fn (.func 121) [] [])) [.t 18, .t 20], [], none⟩,
       ⟨some 15, .mv (.t 21), [], none⟩,
       ⟨some 22, .ext (.t 15) 0, [], none⟩,
       ⟨some 23, .ext (.t 15) 1, [], none⟩,
       ⟨some 24, .nilc (.t 16), [], none⟩,
       ⟨some 25, .fa false 1 4 (.t 24), [], none⟩,
       ⟨none, .st 1 (.t 25) (.t 22), [], none⟩])
    (.seq (.live [1, 5]) (.seq (.drw [⟨some 26, .fa false 1 2 (.t 1), [], none⟩,
        ⟨some 27, .ld false 1 (.t 26), [0], none⟩,
        ⟨some 28, .call (.c (.fn (.func 123) [] [])) [.t 27], [1], none⟩,
        ⟨some 29, .call (.c (.fn (.func 122) [] [])) [.t 28], [2], none⟩,
        ⟨some 30, .bin 0 .mul (.c (.int .i64 2)) (.t 29), [3], none⟩,
        ⟨some 31, .fa false 1 0 (.t 1), [], none⟩,
        ⟨some 32, .ld false 1 (.t 31), [5], none⟩,
        ⟨some 33, .conv .u64 (.t 32), [6], none⟩,
        ⟨some 34, .call (.c (.fn (.func 65) [] [])) [.t 33], [7, 3], none⟩,
        ⟨some 35, .call (.c (.fn (.func 122) [] [])) [.t 34], [8], none⟩,
        ⟨some 36, .bin 0 .add (.t 30) (.t 35), [4, 9], none⟩,
        ⟨some 37, .bin 0 .add (.t 36) (.c (.int .i64 2)), [10], none⟩,
        ⟨some 6, .mv (.t 37), [11, 9, 0, 1, 2, 3, 4, 5, 6, 7, 8, 10], none⟩])
     (.seq (.live [1, 5, 6]) (.seq (.reg [⟨some 39, .mv (.t 5), [], none⟩,
         ⟨some 40, .fa false 1 0 (.t 1), [], none⟩,
         ⟨some 41, .ld false 1 (.t 40), [], none⟩,
         ⟨some 42, .bin 0 .mul (.c (.int .i64 2)) (.t 41), [], none⟩,
         ⟨some 43, .conv .u64 (.t 42), [], none⟩,
         ⟨some 44, .mv (.t 6), [], none⟩,
         ⟨some 45, .bin 0 .quo (.t 44) (.c (.int .i64 60)), [], none⟩,
         ⟨some 46, .bin 0 .add (.t 45) (.c (.int .i64 1)), [], none⟩,
         ⟨some 47, .call (.c (.fn (.func 124) [] [])) [.c (.int .i64 61), .t 43, .t 46], [], none⟩,
         ⟨some 38, .mv (.t 47), [], none⟩,
         ⟨some 48, .ext (.t 38) 0, [], none⟩,
         ⟨some 49, .ext (.t 38) 1, [], none⟩,
         ⟨some 50, .nilc (.t 39), [], none⟩,
         ⟨some 51, .fa false 1 6 (.t 50), [], none⟩,
         ⟨none, .st 1 (.t 51) (.t 48), [], none⟩])
      (.seq (.live [1, 5]) (.seq (.drw [⟨some 53, .mv (.t 5), [], none⟩,
          ⟨some 54, .fa false 1 0 (.t 1), [], none⟩,
          ⟨some 55, .ld false 1 (.t 54), [1], none⟩,
          ⟨some 56, .mv (.t 5), [], none⟩,
          ⟨some 57, .nilc (.t 56), [3], none⟩,
          ⟨some 58, .fa false 1 6 (.t 57), [4], none⟩,
          ⟨some 59, .ld false 1 (.t 58), [5], none⟩,
          ⟨some 60, .call (.c (.fn (.func 121) [] [])) [.t 55, .t 59], [2, 6], none⟩,
          ⟨some 52, .mv (.t 60), [7], none⟩,
          ⟨some 61, .ext (.t 52) 0, [8], none⟩,
          ⟨some 62, .ext (.t 52) 1, [8], none⟩,
          ⟨some 63, .nilc (.t 53), [0, 1, 2, 3, 4, 5, 6, 7, 8, 9], none⟩,
          ⟨some 64, .fa false 1 5 (.t 63), [11, 0, 1, 2, 3, 4, 5, 6, 7, 8, 9], none⟩,
          ⟨none, .st 1 (.t 64) (.t 61), [12, 9, 7, 0, 1, 2, 3, 4, 5, 6, 8], none⟩])
       (.seq (.live [5]) (.seq (.reg [⟨some 65, .mv (.t 5), [], none⟩,
           ⟨some 2, .mv (.t 65), [], none⟩,
           ⟨some 3, .mv (.c (.int .i64 0)), [], none⟩])
        .ret))))))))))))))) }

/-- (*arras/scale.Scale).Ring -/
def ir51 : IFn :=
 { nt := 9, res := [.t 2],
   body := (.seq (.reg [⟨some 2, .mv (.c (.lit (.pointer none))), [], none⟩])
 (.seq (.live [0]) (.seq (.seq (.reg [⟨some 3, .mv (.t 0), [], none⟩,
      ⟨some 4, .bin 2 .eql (.t 3) (.c (.lit (.pointer none))), [], none⟩])
   (.seq (.live [0, 4]) (.cnd (.t 4) (.seq (.reg [⟨some 2, .mv (.c (.lit (.pointer none))), [], none⟩])
     .ret)
    .skip)))
  (.seq (.live [0]) (.seq (.reg [⟨some 5, .mv (.t 0), [], none⟩,
      ⟨some 6, .nilc (.t 5), [], none⟩,
      ⟨some 7, .fa false 1 4 (.t 6), [], none⟩,
      ⟨some 8, .ld false 1 (.t 7), [], none⟩,
      ⟨some 2, .mv (.t 8), [], none⟩])
   .ret))))) }

/-- (*arras/batch.Batch).Power -/
def ir110 : IFn :=
 { nt := 36, res := [.t 4],
   body := (.seq (.reg [⟨some 4, .mv (.c (.int .i64 0)), [], none⟩])
 (.seq (.live [0, 1]) (.seq (.seq (.reg [⟨some 6, .mv (.t 0), [], none⟩,
      ⟨some 7, .bin 2 .eql (.t 6) (.c (.lit (.pointer none))), [], none⟩])
   (.seq (.live [0, 1, 7]) (.cnd (.t 7) (.seq (.reg [⟨some 4, .mv (.c (.int .i64 0)), [], none⟩])
     .ret)
    .skip)))
  (.seq (.live [0, 1]) (.seq (.seq (.reg [⟨some 8, .mv (.t 1), [], none⟩,
       ⟨some 9, .mv (.t 0), [], none⟩,
       ⟨some 10, .nilc (.t 9), [], none⟩,
       ⟨some 11, .fa false 1 1 (.t 10), [], none⟩,
       ⟨some 12, .ld false 1 (.t 11), [], none⟩,
       ⟨some 13, .bin 0 .rem (.t 8) (.t 12), [], none⟩,
       ⟨some 1, .mv (.t 13), [], none⟩])
    (.seq (.live [0, 1]) (.seq (.reg [⟨some 14, .mv (.t 1), [], none⟩,
        ⟨some 15, .bin 0 .lss (.t 14) (.c (.int .i64 0)), [], none⟩])
     (.seq (.live [0, 1, 15]) (.cnd (.t 15) (.reg [⟨some 16, .mv (.t 1), [], none⟩,
         ⟨some 17, .mv (.t 0), [], none⟩,
         ⟨some 18, .nilc (.t 17), [], none⟩,
         ⟨some 19, .fa false 1 1 (.t 18), [], none⟩,
         ⟨some 20, .ld false 1 (.t 19), [], none⟩,
         ⟨some 21, .bin 0 .add (.t 16) (.t 20), [], none⟩,
         ⟨some 1, .mv (.t 21), [], none⟩])
      .skip)))))
   (.seq (.live [0, 1]) (.seq (.reg [⟨some 5, .mv (.c (.int .i64 1)), [], none⟩])
    (.seq (.live [0, 1, 5]) (.seq (.seq (.reg [⟨some 22, .mv (.t 1), [], none⟩,
         ⟨some 23, .mv (.c (.int .i64 0)), [], none⟩])
      (.seq (.live [0, 5, 22, 23]) (.blk 0 (.loop (.seq (.live [0, 5, 22, 23]) (.seq (.reg [⟨some 24, .bin 0 .lss (.t 23) (.t 22), [], none⟩])
         (.seq (.live [0, 5, 22, 23, 24]) (.seq (.cnd (.t 24) .skip
           (.exit 0))
          (.seq (.blk 1 (.reg [⟨some 25, .mv (.t 5), [], none⟩,
               ⟨some 26, .bin 0 .mul (.t 25) (.c (.int .i64 3)), [], none⟩,
               ⟨some 27, .mv (.t 0), [], none⟩,
               ⟨some 28, .nilc (.t 27), [], none⟩,
               ⟨some 29, .fa false 1 0 (.t 28), [], none⟩,
               ⟨some 30, .ld false 1 (.t 29), [], none⟩,
               ⟨some 31, .bin 0 .mul (.c (.int .i64 2)) (.t 30), [], none⟩,
               ⟨some 32, .bin 0 .sub (.t 31) (.c (.int .i64 1)), [], none⟩,
               ⟨some 33, .bin 0 .and (.t 26) (.t 32), [], none⟩,
               ⟨some 5, .mv (.t 33), [], none⟩]))
           (.seq (.live [0, 5, 22, 23]) (.reg [⟨some 34, .bin 0 .add (.t 23) (.c (.int .i64 1)), [], none⟩,
              ⟨some 23, .mv (.t 34), [], none⟩])))))))))))
     (.seq (.live [5]) (.seq (.reg [⟨some 35, .mv (.t 5), [], none⟩,
         ⟨some 4, .mv (.t 35), [], none⟩])
      .ret))))))))))) }

/-- arras/batch.New -/
def ir52 : IFn :=
 { nt := 65, res := [.t 2, .t 3],
   body := (.seq (.reg [⟨some 1, .box 4 (.t 0), [], none⟩,
    ⟨some 2, .mv (.c (.lit (.pointer none))), [], none⟩,
    ⟨some 3, .mv (.c (.int .i64 0)), [], none⟩])
 (.seq (.live [1]) (.seq (.seq (.reg [⟨some 8, .ld true 4 (.t 1), [], none⟩,
      ⟨some 9, .call (.c (.fn (.func 120) [] [])) [.t 8], [], none⟩,
      ⟨some 4, .mv (.t 9), [], none⟩])
   (.seq (.live [1, 4]) (.seq (.reg [⟨some 10, .mv (.t 4), [], none⟩,
       ⟨some 11, .bin 0 .neq (.t 10) (.c (.int .i64 0)), [], none⟩])
    (.seq (.live [1, 4, 11]) (.cnd (.t 11) (.seq (.reg [⟨some 12, .mv (.t 4), [], none⟩,
         ⟨some 2, .mv (.c (.lit (.pointer none))), [], none⟩,
         ⟨some 3, .mv (.t 12), [], none⟩])
      .ret)
     .skip)))))
  (.seq (.live [1]) (.seq (.reg [⟨some 13, .fa false 1 0 (.t 1), [], none⟩,
      ⟨some 14, .ld false 1 (.t 13), [], none⟩,
      ⟨some 15, .fa false 1 0 (.t 1), [], none⟩,
      ⟨some 16, .ld false 1 (.t 15), [], none⟩,
      ⟨some 17, .bin 0 .quo (.t 16) (.c (.int .i64 2)), [], none⟩,
      ⟨some 18, .fa false 1 1 (.t 1), [], none⟩,
      ⟨some 19, .ld false 1 (.t 18), [], none⟩,
      ⟨some 20, .build [.int .i64 0, .int .i64 0, .int .u64 0, .lit (.pointer none), .lit (.slice none 0 0)] [(0, 1, .t 14), (1, 1, .t 17), (2, 1, .t 19)], [], none⟩,
      ⟨some 21, .box 5 (.t 20), [], none⟩,
      ⟨some 5, .mv (.t 21), [], none⟩])
   (.seq (.live [1, 5]) (.seq (.reg [⟨some 23, .mv (.t 5), [], none⟩,
       ⟨some 24, .fa false 1 0 (.t 1), [], none⟩,
       ⟨some 25, .ld false 1 (.t 24), [], none⟩,
       ⟨some 26, .fa false 1 1 (.t 1), [], none⟩,
       ⟨some 27, .ld false 1 (.t 26), [], none⟩,
       ⟨some 28, .call (.c (.fn (.func 125) [] [])) [.t 25, .t 27], [], none⟩,
       ⟨some 22, .mv (.t 28), [], none⟩,
       ⟨some 29, .ext (.t 22) 0, [], none⟩,
       ⟨some 30, .ext (.t 22) 1, [], none⟩,
       ⟨some 31, .nilc (.t 23), [], none⟩,
       ⟨some 32, .fa false 1 3 (.t 31), [], none⟩,
       ⟨none, .st 1 (.t 32) (.t 29), [], none⟩])
    (.seq (.live [1, 5]) (.seq (.seq (.reg [⟨some 33, .mv (.t 5), [], none⟩,
         ⟨some 34, .nilc (.t 33), [], none⟩,
         ⟨some 35, .fa false 1 1 (.t 34), [], none⟩,
         ⟨some 36, .ld false 1 (.t 35), [], none⟩,
         ⟨some 37, .mv (.c (.int .i64 0)), [], none⟩])
      (.seq (.live [1, 5, 36, 37]) (.blk 0 (.loop (.seq (.live [1, 5, 36, 37]) (.seq (.reg [⟨some 38, .bin 0 .lss (.t 37) (.t 36), [], none⟩])
         (.seq (.live [1, 5, 36, 37, 38]) (.seq (.cnd (.t 38) .skip
           (.exit 0))
          (.seq (.blk 1 (.seq (.reg [⟨some 39, .mv (.t 37), [], none⟩,
                ⟨some 6, .mv (.t 39), [], none⟩])
             (.seq (.live [1, 5, 6, 36, 37]) (.seq (.reg [⟨some 40, .mv (.t 5), [], none⟩,
                 ⟨some 41, .mv (.t 6), [], none⟩,
                 ⟨some 42, .call (.c (.fn (.func 110) [] [])) [.t 40, .t 41], [], none⟩,
                 ⟨some 7, .mv (.t 42), [], none⟩])
              (.seq (.live [1, 5, 7, 36, 37]) (.drw [⟨some 43, .mv (.t 5), [], none⟩,
                 ⟨some 44, .mv (.t 5), [], none⟩,
                 ⟨some 45, .nilc (.t 44), [1], none⟩,
                 ⟨some 46, .fa false 1 4 (.t 45), [2], none⟩,
                 ⟨some 47, .ld false 1 (.t 46), [3], none⟩,
                 ⟨some 48, .mv (.t 7), [], none⟩,
                 ⟨some 49, .bin 0 .sub (.t 48) (.c (.int .i64 1)), [5], none⟩,
                 ⟨some 50, .bin 0 .quo (.t 49) (.c (.int .i64 2)), [6], none⟩,
                 ⟨some 51, .fa false 1 0 (.t 1), [], none⟩,
                 ⟨some 52, .ld false 1 (.t 51), [8], none⟩,
                 ⟨some 53, .bin 0 .mul (.c (.int .i64 2)) (.t 52), [9], none⟩,
                 ⟨some 54, .mv (.t 7), [], none⟩,
                 ⟨some 55, .bin 0 .sub (.t 53) (.t 54), [10, 11], none⟩,
                 ⟨some 56, .bin 0 .sub (.t 55) (.c (.int .i64 1)), [12], none⟩,
                 ⟨some 57, .bin 0 .quo (.t 56) (.c (.int .i64 2)), [13], none⟩,
                 ⟨some 58, .build [.int .i64 0, .int .i64 0] [(0, 1, .t 50), (1, 1, .t 57)], [7, 14], none⟩,
                 ⟨some 59, .bsl true 2 (.agg [.int .i64 0, .int .i64 0]) 1 [(0, .t 58)], [15], none⟩,
                 ⟨some 60, .app true 2 16 (.t 47) (.t 59), [4, 16], none⟩,
                 ⟨some 61, .nilc (.t 43), [0, 1, 2, 3, 4, 5, 6, 7, 8, 9, 10, 11, 12, 13, 14, 15, 16, 17], none⟩,
                 ⟨some 62, .fa false 1 4 (.t 61), [18, 0, 1, 2, 3, 4, 5, 6, 7, 8, 9, 10, 11, 12, 13, 14, 15, 16, 17], none⟩,
                 ⟨none, .st 1 (.t 62) (.t 60), [19, 17, 0, 1, 2, 3, 4, 5, 6, 7, 8, 9, 10, 11, 12, 13, 14, 15, 16], none⟩]))))))
           (.seq (.live [1, 5, 36, 37]) (.reg [⟨some 63, .bin 0 .add (.t 37) (.c (.int .i64 1)), [], none⟩,
              ⟨some 37, .mv (.t 63), [], none⟩])))))))))))
     (.seq (.live [5]) (.seq (.reg [⟨some 64, .mv (.t 5), [], none⟩,
         ⟨some 2, .mv (.t 64), [], none⟩,
         ⟨some 3, .mv (.c (.int .i64 0)), [], none⟩])
      .ret))))))))))) }

/-- arras/eval.New -/
def ir13 : IFn :=
 { nt := 30, res := [.t 2, .t 3],
   body := (.seq (.reg [⟨some 1, .box 4 (.t 0), [], none⟩,
    ⟨some 2, .mv (.c (.lit (.pointer none))), [], none⟩,
    ⟨some 3, .mv (.c (.int .i64 0)), [], none⟩])
 (.seq (.live [1]) (.seq (.reg [⟨some 8, .ld true 4 (.t 1), [], none⟩,
     ⟨some 9, .call (.c (.fn (.func 50) [] [])) [.t 8], [], none⟩,
     ⟨some 7, .mv (.t 9), [], none⟩,
     ⟨some 10, .ext (.t 7) 0, [], none⟩,
     ⟨some 11, .ext (.t 7) 1, [], none⟩,
     ⟨some 4, .mv (.t 10), [], none⟩,
     ⟨some 5, .mv (.t 11), [], none⟩])
  (.seq (.live [1, 4, 5]) (.seq (.seq (.reg [⟨some 12, .mv (.t 5), [], none⟩,
       ⟨some 13, .bin 0 .neq (.t 12) (.c (.int .i64 0)), [], none⟩])
    (.seq (.live [1, 4, 5, 13]) (.cnd (.t 13) (.seq (.reg [⟨some 14, .mv (.t 5), [], none⟩,
         ⟨some 2, .mv (.c (.lit (.pointer none))), [], none⟩,
         ⟨some 3, .mv (.t 14), [], none⟩])
      .ret)
     .skip)))
   (.seq (.live [1, 4]) (.seq (.drw [⟨some 15, .ld true 4 (.t 1), [], none⟩,
       ⟨some 16, .mv (.t 4), [], none⟩,
       ⟨some 17, .call (.c (.fn (.func 51) [] [])) [.t 16], [1], none⟩,
       ⟨some 18, .mv (.t 4), [], none⟩,
       ⟨some 19, .build [.int .i64 0, .int .u64 0, .lit (.slice none 0 0), .int .i64 0, .lit (.pointer none), .lit (.pointer none), .lit (.pointer none)] [(0, 4, .t 15), (4, 1, .t 17), (5, 1, .t 18)], [0, 2, 3], none⟩,
       ⟨some 20, .box 7 (.t 19), [4], none⟩,
       ⟨some 6, .mv (.t 20), [5, 2, 0, 1, 3, 4], none⟩])
    (.seq (.live [1, 6]) (.seq (.reg [⟨some 22, .mv (.t 6), [], none⟩,
        ⟨some 23, .ld true 4 (.t 1), [], none⟩,
        ⟨some 24, .call (.c (.fn (.func 52) [] [])) [.t 23], [], none⟩,
        ⟨some 21, .mv (.t 24), [], none⟩,
        ⟨some 25, .ext (.t 21) 0, [], none⟩,
        ⟨some 26, .ext (.t 21) 1, [], none⟩,
        ⟨some 27, .nilc (.t 22), [], none⟩,
        ⟨some 28, .fa false 1 6 (.t 27), [], none⟩,
        ⟨none, .st 1 (.t 28) (.t 25), [], none⟩])
     (.seq (.live [6]) (.seq (.reg [⟨some 29, .mv (.t 6), [], none⟩,
         ⟨some 2, .mv (.t 29), [], none⟩,
         ⟨some 3, .mv (.c (.int .i64 0)), [], none⟩])
      .ret))))))))))) }

/-- arras/cipher.start -/
def ir195 : IFn :=
 { nt := 17, res := [.t 2, .t 3],
   body := (.seq (.reg [⟨some 1, .box 4 (.t 0), [], none⟩,
    ⟨some 2, .mv (.c (.lit (.pointer none))), [], none⟩,
    ⟨some 3, .mv (.c (.int .i64 0)), [], none⟩])
 (.seq (.live [1]) (.seq (.seq (.reg [⟨some 5, .ld true 4 (.t 1), [], none⟩,
      ⟨some 6, .call (.c (.fn (.func 120) [] [])) [.t 5], [], none⟩,
      ⟨some 4, .mv (.t 6), [], none⟩])
   (.seq (.live [1, 4]) (.seq (.reg [⟨some 7, .mv (.t 4), [], none⟩,
       ⟨some 8, .bin 0 .neq (.t 7) (.c (.int .i64 0)), [], none⟩])
    (.seq (.live [1, 4, 8]) (.cnd (.t 8) (.seq (.reg [⟨some 9, .mv (.t 4), [], none⟩,
         ⟨some 2, .mv (.c (.lit (.pointer none))), [], none⟩,
         ⟨some 3, .mv (.t 9), [], none⟩])
      .ret)
     .skip)))))
  (.seq (.live [1]) (.seq (.reg [⟨some 10, .fa false 1 0 (.t 1), [], none⟩,
      ⟨some 11, .ld false 1 (.t 10), [], none⟩,
      ⟨some 12, .fa false 1 2 (.t 1), [], none⟩,
      ⟨some 13, .ld false 1 (.t 12), [], none⟩,
      ⟨some 14, .call (.c (.fn (.func 121) [] [])) [.t 11, .t 13], [], none⟩,
      ⟨some 15, .ext (.t 14) 0, [], none⟩,
      ⟨some 16, .ext (.t 14) 1, [], none⟩,
      ⟨some 2, .mv (.t 15), [], none⟩,
      ⟨some 3, .mv (.t 16), [], none⟩])
   .ret))))) }

/-- slices.IndexFunc[[]uint64,uint64] -/
def ir235 : IFn :=
 { nt := 19, res := [.t 4],
   body := (.seq (.reg [⟨some 4, .mv (.c (.int .i64 0)), [], none⟩])
 (.seq (.live [0, 1]) (.seq (.seq (.reg [⟨some 6, .mv (.t 0), [], none⟩,
      ⟨some 7, .len (.t 6), [], none⟩,
      ⟨some 8, .mv (.c (.int .i64 0)), [], none⟩])
   (.seq (.live [0, 1, 7, 8]) (.blk 0 (.loop (.seq (.live [0, 1, 7, 8]) (.seq (.reg [⟨some 9, .bin 0 .lss (.t 8) (.t 7), [], none⟩])
      (.seq (.live [0, 1, 7, 8, 9]) (.seq (.cnd (.t 9) .skip
        (.exit 0))
       (.seq (.blk 1 (.seq (.reg [⟨some 10, .mv (.t 8), [], none⟩,
             ⟨some 5, .mv (.t 10), [], none⟩])
          (.seq (.live [0, 1, 5, 7, 8]) (.seq (.reg [⟨some 11, .mv (.t 1), [], none⟩,
              ⟨some 12, .mv (.t 0), [], none⟩,
              ⟨some 13, .mv (.t 5), [], none⟩,
              ⟨some 14, .ia 1 (.t 12) (.t 13), [], none⟩,
              ⟨some 15, .ld false 1 (.t 14), [], none⟩,
              ⟨some 16, .call (.t 11) [.t 15], [], none⟩])
           (.seq (.live [0, 1, 5, 7, 8, 16]) (.cnd (.t 16) (.seq (.reg [⟨some 17, .mv (.t 5), [], none⟩,
                ⟨some 4, .mv (.t 17), [], none⟩])
             .ret)
            .skip))))))
        (.seq (.live [0, 1, 7, 8]) (.reg [⟨some 18, .bin 0 .add (.t 8) (.c (.int .i64 1)), [], none⟩,
           ⟨some 8, .mv (.t 18), [], none⟩])))))))))))
  (.seq (.live []) (.seq (.reg [⟨some 4, .mv (.c (.int .i64 (-1))), [], none⟩])
   .ret))))) }

/-- slices.ContainsFunc[[]uint64,uint64] -/
def ir214 : IFn :=
 { nt := 9, res := [.t 4],
   body := (.seq (.reg [⟨some 4, .mv (.c (.bool false)), [], none⟩])
 (.seq (.live [0, 1]) (.seq (.reg [⟨some 5, .mv (.t 0), [], none⟩,
     ⟨some 6, .mv (.t 1), [], none⟩,
     ⟨some 7, .call (.c (.fn (.func 235) [] [])) [.t 5, .t 6], [], none⟩,
     ⟨some 8, .bin 0 .geq (.t 7) (.c (.int .i64 0)), [], none⟩,
     ⟨some 4, .mv (.t 8), [], none⟩])
  .ret))) }

/-- (*arras/ring.Ring).Level$1 -/
def ir215 : IFn :=
 { nt := 14, res := [.t 4],
   body := (.seq (.reg [⟨some 4, .mv (.c (.bool false)), [], none⟩])
 (.seq (.live [0, 1, 2]) (.seq (.drw [⟨some 5, .mv (.t 0), [], none⟩,
     ⟨some 6, .ld false 1 (.t 1), [], none⟩,
     ⟨some 7, .nilc (.t 6), [1], none⟩,
     ⟨some 8, .fa false 1 1 (.t 7), [2], none⟩,
     ⟨some 9, .ld false 1 (.t 8), [3], none⟩,
     ⟨some 10, .ld false 1 (.t 2), [], none⟩,
     ⟨some 11, .ia 1 (.t 9) (.t 10), [4, 5], none⟩,
     ⟨some 12, .ld false 1 (.t 11), [6], none⟩,
     ⟨some 13, .bin 0 .geq (.t 5) (.t 12), [0, 7], none⟩,
     ⟨some 4, .mv (.t 13), [8, 0, 1, 2, 3, 4, 5, 6, 7], none⟩])
  .ret))) }

/-- (*arras/ring.Ring).Level -/
def ir165 : IFn :=
 { nt := 50, res := [.t 4, .t 5],
   body := (.seq (.reg [⟨some 2, .box 1 (.t 0), [], none⟩,
    ⟨some 3, .box 1 (.t 1), [], none⟩,
    ⟨some 4, .mv (.c (.int .i64 0)), [], none⟩,
    ⟨some 5, .mv (.c (.int .i64 0)), [], none⟩])
 (.seq (.live [2, 3, 15, 16, 17, 18, 19, 20, 21, 22, 23, 41, 42, 43]) (.seq (.seq (.reg [⟨some 8, .ld false 1 (.t 2), [], none⟩,
      ⟨some 9, .bin 2 .eql (.t 8) (.c (.lit (.pointer none))), [], none⟩])
   (.seq (.live [2, 3, 9, 15, 16, 17, 18, 19, 20, 21, 22, 23, 41, 42, 43]) (.cnd (.t 9) (.seq (.reg [⟨some 4, .mv (.c (.int .i64 0)), [], none⟩,
        ⟨some 5, .mv (.c (.int .i64 1)), [], none⟩])
     .ret)
    .skip)))
  (.seq (.live [2, 3, 15, 16, 17, 18, 19, 20, 21, 22, 23, 41, 42, 43]) (.seq (.seq (.drw [⟨some 10, .fa false 1 0 (.t 3), [], none⟩,
       ⟨some 11, .ld false 1 (.t 10), [0], none⟩,
       ⟨some 12, .len (.t 11), [1], none⟩,
       ⟨some 13, .bin 0 .lss (.t 12) (.c (.int .i64 1)), [2], none⟩,
       ⟨some 14, .mv (.t 13), [3], none⟩,
       ⟨some 15, .fa false 1 0 (.t 3), [4], some (14, false)⟩,
       ⟨some 16, .ld false 1 (.t 15), [5, 4], some (14, false)⟩,
       ⟨some 17, .len (.t 16), [6, 4], some (14, false)⟩,
       ⟨some 18, .ld false 1 (.t 2), [4], some (14, false)⟩,
       ⟨some 19, .nilc (.t 18), [8, 4], some (14, false)⟩,
       ⟨some 20, .fa false 1 1 (.t 19), [9, 4], some (14, false)⟩,
       ⟨some 21, .ld false 1 (.t 20), [10, 4], some (14, false)⟩,
       ⟨some 22, .len (.t 21), [11, 4], some (14, false)⟩,
       ⟨some 23, .bin 0 .gtr (.t 17) (.t 22), [7, 12, 4], some (14, false)⟩,
       ⟨some 24, .pick (.t 14) (.c (.bool true)) (.t 23), [4, 13], none⟩])
    (.seq (.live [2, 3, 24, 41, 42, 43]) (.cnd (.t 24) (.seq (.reg [⟨some 4, .mv (.c (.int .i64 0)), [], none⟩,
         ⟨some 5, .mv (.c (.int .i64 3)), [], none⟩])
      .ret)
     .skip)))
   (.seq (.live [2, 3, 41, 42, 43]) (.seq (.seq (.reg [⟨some 25, .fa false 1 0 (.t 3), [], none⟩,
        ⟨some 26, .ld false 1 (.t 25), [], none⟩,
        ⟨some 27, .len (.t 26), [], none⟩,
        ⟨some 28, .mv (.c (.int .i64 0)), [], none⟩])
     (.seq (.live [2, 3, 26, 27, 28, 41, 42, 43]) (.blk 0 (.loop (.seq (.live [2, 3, 26, 27, 28, 41, 42, 43]) (.seq (.reg [⟨some 29, .bin 0 .lss (.t 28) (.t 27), [], none⟩])
        (.seq (.live [2, 3, 26, 27, 28, 29, 41, 42, 43]) (.seq (.cnd (.t 29) .skip
          (.exit 0))
         (.seq (.blk 1 (.seq (.reg [⟨some 30, .mv (.t 28), [], none⟩,
               ⟨some 31, .ia 1 (.t 26) (.t 28), [], none⟩,
               ⟨some 32, .ld false 1 (.t 31), [], none⟩,
               ⟨some 6, .new (.int .i64 0), [], none⟩,
               ⟨none, .st 1 (.t 6) (.t 30), [], none⟩,
               ⟨some 7, .mv (.t 32), [], none⟩])
            (.seq (.live [2, 3, 6, 7, 26, 27, 28, 41, 42, 43]) (.seq (.reg [⟨some 33, .mv (.t 7), [], none⟩,
                ⟨some 34, .len (.t 33), [], none⟩,
                ⟨some 35, .ld false 1 (.t 2), [], none⟩,
                ⟨some 36, .nilc (.t 35), [], none⟩,
                ⟨some 37, .fa false 1 0 (.t 36), [], none⟩,
                ⟨some 38, .ld false 1 (.t 37), [], none⟩,
                ⟨some 39, .bin 0 .neq (.t 34) (.t 38), [], none⟩,
                ⟨some 40, .mv (.t 39), [], none⟩,
                ⟨some 41, .mv (.t 7), [], some (40, false)⟩,
                ⟨some 42, .mkfn (.func 215) [] [.t 2, .t 6], [], some (40, false)⟩,
                ⟨some 43, .call (.c (.fn (.func 214) [] [])) [.t 41, .t 42], [], some (40, false)⟩,
                ⟨some 44, .pick (.t 40) (.c (.bool true)) (.t 43), [], none⟩])
             (.seq (.live [2, 3, 26, 27, 28, 41, 42, 43, 44]) (.cnd (.t 44) (.seq (.reg [⟨some 4, .mv (.c (.int .i64 0)), [], none⟩,
                  ⟨some 5, .mv (.c (.int .i64 3)), [], none⟩])
               .ret)
              .skip))))))
          (.seq (.live [2, 3, 26, 27, 28, 41, 42, 43]) (.reg [⟨some 45, .bin 0 .add (.t 28) (.c (.int .i64 1)), [], none⟩,
             ⟨some 28, .mv (.t 45), [], none⟩])))))))))))
    (.seq (.live [3]) (.seq (.reg [⟨some 46, .fa false 1 0 (.t 3), [], none⟩,
        ⟨some 47, .ld false 1 (.t 46), [], none⟩,
        ⟨some 48, .len (.t 47), [], none⟩,
        ⟨some 49, .bin 0 .sub (.t 48) (.c (.int .i64 1)), [], none⟩,
        ⟨some 4, .mv (.t 49), [], none⟩,
        ⟨some 5, .mv (.c (.int .i64 0)), [], none⟩])
     .ret))))))))) }

/-- arras/cipher.level -/
def ir196 : IFn :=
 { nt := 49, res := [.t 4, .t 5],
   body := (.seq (.reg [⟨some 3, .box 1 (.t 1), [], none⟩,
    ⟨some 4, .mv (.c (.int .i64 0)), [], none⟩,
    ⟨some 5, .mv (.c (.int .i64 0)), [], none⟩])
 (.seq (.live [0, 3, 16, 17, 18, 19, 38, 39, 40, 41, 42, 43, 44]) (.seq (.seq (.reg [⟨some 11, .fa false 1 0 (.t 3), [], none⟩,
      ⟨some 12, .ld false 1 (.t 11), [], none⟩,
      ⟨some 13, .len (.t 12), [], none⟩,
      ⟨some 14, .bin 0 .lss (.t 13) (.c (.int .i64 2)), [], none⟩,
      ⟨some 15, .mv (.t 14), [], none⟩,
      ⟨some 16, .fa false 1 0 (.t 3), [], some (15, false)⟩,
      ⟨some 17, .ld false 1 (.t 16), [], some (15, false)⟩,
      ⟨some 18, .len (.t 17), [], some (15, false)⟩,
      ⟨some 19, .bin 0 .gtr (.t 18) (.c (.int .i64 3)), [], some (15, false)⟩,
      ⟨some 20, .pick (.t 15) (.c (.bool true)) (.t 19), [], none⟩])
   (.seq (.live [0, 3, 20, 38, 39, 40, 41, 42, 43, 44]) (.cnd (.t 20) (.seq (.reg [⟨some 4, .mv (.c (.int .i64 0)), [], none⟩,
        ⟨some 5, .mv (.c (.int .i64 3)), [], none⟩])
     .ret)
    .skip)))
  (.seq (.live [0, 3, 38, 39, 40, 41, 42, 43, 44]) (.seq (.reg [⟨some 6, .mv (.c (.int .i64 0)), [], none⟩])
   (.seq (.live [0, 3, 6, 38, 39, 40, 41, 42, 43, 44]) (.seq (.seq (.reg [⟨some 21, .fa false 1 0 (.t 3), [], none⟩,
        ⟨some 22, .ld false 1 (.t 21), [], none⟩,
        ⟨some 23, .len (.t 22), [], none⟩,
        ⟨some 24, .mv (.c (.int .i64 0)), [], none⟩])
     (.seq (.live [0, 6, 22, 23, 24, 38, 39, 40, 41, 42, 43, 44]) (.blk 0 (.loop (.seq (.live [0, 6, 22, 23, 24, 38, 39, 40, 41, 42, 43, 44]) (.seq (.reg [⟨some 25, .bin 0 .lss (.t 24) (.t 23), [], none⟩])
        (.seq (.live [0, 6, 22, 23, 24, 25, 38, 39, 40, 41, 42, 43, 44]) (.seq (.cnd (.t 25) .skip
          (.exit 0))
         (.seq (.blk 1 (.seq (.reg [⟨some 26, .mv (.t 24), [], none⟩,
               ⟨some 27, .ia 1 (.t 22) (.t 24), [], none⟩,
               ⟨some 28, .ld true 1 (.t 27), [], none⟩,
               ⟨some 8, .new (.agg [.lit (.slice none 0 0)]), [], none⟩,
               ⟨some 7, .mv (.t 26), [], none⟩,
               ⟨none, .st 1 (.t 8) (.t 28), [], none⟩])
            (.seq (.live [0, 6, 7, 8, 22, 23, 24, 38, 39, 40, 41, 42, 43, 44]) (.seq (.reg [⟨some 30, .mv (.t 0), [], none⟩,
                ⟨some 31, .ld true 1 (.t 8), [], none⟩,
                ⟨some 32, .call (.c (.fn (.func 165) [] [])) [.t 30, .t 31], [], none⟩,
                ⟨some 29, .mv (.t 32), [], none⟩,
                ⟨some 33, .ext (.t 29) 0, [], none⟩,
                ⟨some 34, .ext (.t 29) 1, [], none⟩,
                ⟨some 9, .mv (.t 33), [], none⟩,
                ⟨some 10, .mv (.t 34), [], none⟩])
             (.seq (.live [0, 6, 7, 9, 10, 22, 23, 24, 38, 39, 40, 41, 42, 43, 44]) (.seq (.seq (.reg [⟨some 35, .mv (.t 10), [], none⟩,
                  ⟨some 36, .bin 0 .neq (.t 35) (.c (.int .i64 0)), [], none⟩,
                  ⟨some 37, .mv (.t 36), [], none⟩,
                  ⟨some 38, .mv (.t 7), [], some (37, false)⟩,
                  ⟨some 39, .bin 0 .gtr (.t 38) (.c (.int .i64 0)), [], some (37, false)⟩,
                  ⟨some 40, .mv (.t 39), [], some (37, false)⟩,
                  ⟨some 41, .mv (.t 9), [], some (40, true)⟩,
                  ⟨some 42, .mv (.t 6), [], some (40, true)⟩,
                  ⟨some 43, .bin 0 .neq (.t 41) (.t 42), [], some (40, true)⟩,
                  ⟨some 44, .pick (.t 40) (.t 43) (.c (.bool false)), [], some (37, false)⟩,
                  ⟨some 45, .pick (.t 37) (.c (.bool true)) (.t 44), [], none⟩])
               (.seq (.live [0, 9, 22, 23, 24, 38, 39, 40, 41, 42, 43, 44, 45]) (.cnd (.t 45) (.seq (.reg [⟨some 4, .mv (.c (.int .i64 0)), [], none⟩,
                    ⟨some 5, .mv (.c (.int .i64 3)), [], none⟩])
                 .ret)
                .skip)))
              (.seq (.live [0, 9, 22, 23, 24, 38, 39, 40, 41, 42, 43, 44]) (.reg [⟨some 46, .mv (.t 9), [], none⟩,
                 ⟨some 6, .mv (.t 46), [], none⟩]))))))))
          (.seq (.live [0, 6, 22, 23, 24, 38, 39, 40, 41, 42, 43, 44]) (.reg [⟨some 47, .bin 0 .add (.t 24) (.c (.int .i64 1)), [], none⟩,
             ⟨some 24, .mv (.t 47), [], none⟩])))))))))))
    (.seq (.live [6]) (.seq (.reg [⟨some 48, .mv (.t 6), [], none⟩,
        ⟨some 4, .mv (.t 48), [], none⟩,
        ⟨some 5, .mv (.c (.int .i64 0)), [], none⟩])
     .ret))))))))) }

/-- arras/cipher.Level -/
def ir128 : IFn :=
 { nt := 21, res := [.t 4, .t 5],
   body := (.seq (.reg [⟨some 2, .box 4 (.t 0), [], none⟩,
    ⟨some 3, .box 1 (.t 1), [], none⟩,
    ⟨some 4, .mv (.c (.int .i64 0)), [], none⟩,
    ⟨some 5, .mv (.c (.int .i64 0)), [], none⟩])
 (.seq (.live [2, 3]) (.seq (.reg [⟨some 9, .ld true 4 (.t 2), [], none⟩,
     ⟨some 10, .call (.c (.fn (.func 195) [] [])) [.t 9], [], none⟩,
     ⟨some 8, .mv (.t 10), [], none⟩,
     ⟨some 11, .ext (.t 8) 0, [], none⟩,
     ⟨some 12, .ext (.t 8) 1, [], none⟩,
     ⟨some 6, .mv (.t 11), [], none⟩,
     ⟨some 7, .mv (.t 12), [], none⟩])
  (.seq (.live [3, 6, 7]) (.seq (.seq (.reg [⟨some 13, .mv (.t 7), [], none⟩,
       ⟨some 14, .bin 0 .neq (.t 13) (.c (.int .i64 0)), [], none⟩])
    (.seq (.live [3, 6, 7, 14]) (.cnd (.t 14) (.seq (.reg [⟨some 15, .mv (.t 7), [], none⟩,
         ⟨some 4, .mv (.c (.int .i64 0)), [], none⟩,
         ⟨some 5, .mv (.t 15), [], none⟩])
      .ret)
     .skip)))
   (.seq (.live [3, 6]) (.seq (.reg [⟨some 16, .mv (.t 6), [], none⟩,
       ⟨some 17, .ld true 1 (.t 3), [], none⟩,
       ⟨some 18, .call (.c (.fn (.func 196) [] [])) [.t 16, .t 17], [], none⟩,
       ⟨some 19, .ext (.t 18) 0, [], none⟩,
       ⟨some 20, .ext (.t 18) 1, [], none⟩,
       ⟨some 4, .mv (.t 19), [], none⟩,
       ⟨some 5, .mv (.t 20), [], none⟩])
    .ret))))))) }

/-- (*arras/eval.Eval).levels -/
def ir58 : IFn :=
 { nt := 36, res := [.t 4, .t 5],
   body := (.seq (.reg [⟨some 4, .mv (.c (.lit (.slice none 0 0))), [], none⟩,
    ⟨some 5, .mv (.c (.int .i64 0)), [], none⟩])
 (.seq (.live [0, 1, 4]) (.seq (.seq (.reg [⟨some 10, .mv (.t 0), [], none⟩,
      ⟨some 11, .bin 2 .eql (.t 10) (.c (.lit (.pointer none))), [], none⟩])
   (.seq (.live [0, 1, 4, 11]) (.cnd (.t 11) (.seq (.reg [⟨some 4, .mv (.c (.lit (.slice none 0 0))), [], none⟩,
        ⟨some 5, .mv (.c (.int .i64 1)), [], none⟩])
     .ret)
    .skip)))
  (.seq (.live [0, 1, 4]) (.seq (.seq (.reg [⟨some 12, .mv (.t 1), [], none⟩,
       ⟨some 13, .len (.t 12), [], none⟩,
       ⟨some 14, .mv (.c (.int .i64 0)), [], none⟩])
    (.seq (.live [0, 4, 12, 13, 14]) (.blk 0 (.loop (.seq (.live [0, 4, 12, 13, 14]) (.seq (.reg [⟨some 15, .bin 0 .lss (.t 14) (.t 13), [], none⟩])
       (.seq (.live [0, 4, 12, 13, 14, 15]) (.seq (.cnd (.t 15) .skip
         (.exit 0))
        (.seq (.blk 1 (.seq (.reg [⟨some 16, .ia 1 (.t 12) (.t 14), [], none⟩,
              ⟨some 17, .ld true 1 (.t 16), [], none⟩,
              ⟨some 7, .new (.agg [.lit (.slice none 0 0)]), [], none⟩,
              ⟨none, .st 1 (.t 7) (.t 17), [], none⟩])
           (.seq (.live [0, 4, 7, 12, 13, 14]) (.seq (.drw [⟨some 19, .mv (.t 0), [], none⟩,
               ⟨some 20, .nilc (.t 19), [0], none⟩,
               ⟨some 21, .fa true 4 0 (.t 20), [1], none⟩,
               ⟨some 22, .ld true 4 (.t 21), [2], none⟩,
               ⟨some 23, .ld true 1 (.t 7), [], none⟩,
               ⟨some 24, .call (.c (.fn (.func 128) [] [])) [.t 22, .t 23], [3, 4], none⟩,
               ⟨some 18, .mv (.t 24), [5], none⟩,
               ⟨some 25, .ext (.t 18) 0, [6], none⟩,
               ⟨some 26, .ext (.t 18) 1, [6], none⟩,
               ⟨some 8, .mv (.t 25), [7, 5, 0, 1, 2, 3, 4, 6], none⟩,
               ⟨some 9, .mv (.t 26), [8, 9, 0, 1, 2, 3, 4, 5, 6, 7], none⟩])
            (.seq (.live [0, 4, 8, 9, 12, 13, 14]) (.seq (.seq (.reg [⟨some 27, .mv (.t 9), [], none⟩,
                 ⟨some 28, .bin 0 .neq (.t 27) (.c (.int .i64 0)), [], none⟩])
              (.seq (.live [0, 4, 8, 9, 12, 13, 14, 28]) (.cnd (.t 28) (.seq (.reg [⟨some 29, .mv (.t 9), [], none⟩,
                   ⟨some 4, .mv (.c (.lit (.slice none 0 0))), [], none⟩,
                   ⟨some 5, .mv (.t 29), [], none⟩])
                .ret)
               .skip)))
             (.seq (.live [0, 4, 8, 12, 13, 14]) (.reg [⟨some 30, .mv (.t 4), [], none⟩,
                ⟨some 31, .mv (.t 8), [], none⟩,
                ⟨some 32, .bsl true 1 (.int .i64 0) 1 [(0, .t 31)], [], none⟩,
                ⟨some 33, .app true 1 8 (.t 30) (.t 32), [], none⟩,
                ⟨some 4, .mv (.t 33), [], none⟩]))))))))
         (.seq (.live [0, 4, 12, 13, 14]) (.reg [⟨some 34, .bin 0 .add (.t 14) (.c (.int .i64 1)), [], none⟩,
            ⟨some 14, .mv (.t 34), [], none⟩])))))))))))
   (.seq (.live [4]) (.seq (.reg [⟨some 35, .mv (.t 4), [], none⟩,
       ⟨some 4, .mv (.t 35), [], none⟩,
       ⟨some 5, .mv (.c (.int .i64 0)), [], none⟩])
    .ret))))))) }

/-- (*arras/ring.Ring).Drop -/
def ir129 : IFn :=
 { nt := 53, res := [.cell 6 true 1, .t 7],
   body := (.seq (.reg [⟨some 4, .box 1 (.t 1), [], none⟩,
    ⟨some 6, .new (.agg [.lit (.slice none 0 0)]), [], none⟩,
    ⟨some 7, .mv (.c (.int .i64 0)), [], none⟩])
 (.seq (.live [0, 2, 4, 6, 28, 29, 30]) (.seq (.reg [⟨some 14, .mv (.t 0), [], none⟩,
     ⟨some 15, .ld true 1 (.t 4), [], none⟩,
     ⟨some 16, .call (.c (.fn (.func 165) [] [])) [.t 14, .t 15], [], none⟩,
     ⟨some 13, .mv (.t 16), [], none⟩,
     ⟨some 17, .ext (.t 13) 0, [], none⟩,
     ⟨some 18, .ext (.t 13) 1, [], none⟩,
     ⟨some 8, .mv (.t 17), [], none⟩,
     ⟨some 9, .mv (.t 18), [], none⟩])
  (.seq (.live [2, 4, 6, 8, 9, 28, 29, 30]) (.seq (.blk 0 (.seq (.reg [⟨some 20, .mv (.t 9), [], none⟩,
        ⟨some 21, .bin 0 .neq (.t 20) (.c (.int .i64 0)), [], none⟩,
        ⟨some 19, .mv (.t 21), [], none⟩])
     (.seq (.live [2, 4, 6, 8, 9, 19, 28, 29, 30]) (.cnd (.t 19) (.seq (.reg [⟨some 22, .build [.lit (.slice none 0 0)] [], [], none⟩,
          ⟨some 23, .mv (.t 9), [], none⟩,
          ⟨none, .st 1 (.t 6) (.t 22), [], none⟩,
          ⟨some 7, .mv (.t 23), [], none⟩])
       .ret)
      (.seq (.reg [⟨some 25, .mv (.t 2), [], none⟩,
          ⟨some 26, .bin 0 .lss (.t 25) (.c (.int .i64 0)), [], none⟩,
          ⟨some 27, .mv (.t 26), [], none⟩,
          ⟨some 28, .mv (.t 2), [], some (27, false)⟩,
          ⟨some 29, .mv (.t 8), [], some (27, false)⟩,
          ⟨some 30, .bin 0 .gtr (.t 28) (.t 29), [], some (27, false)⟩,
          ⟨some 31, .pick (.t 27) (.c (.bool true)) (.t 30), [], none⟩,
          ⟨some 24, .mv (.t 31), [], none⟩])
       (.seq (.live [2, 4, 6, 24]) (.cnd (.t 24) (.seq (.reg [⟨some 32, .build [.lit (.slice none 0 0)] [], [], none⟩,
            ⟨none, .st 1 (.t 6) (.t 32), [], none⟩,
            ⟨some 7, .mv (.c (.int .i64 10)), [], none⟩])
         .ret)
        .skip)))))))
   (.seq (.live [2, 4, 6]) (.seq (.reg [⟨some 33, .build [.lit (.slice none 0 0)] [], [], none⟩,
       ⟨some 10, .new (.agg [.lit (.slice none 0 0)]), [], none⟩,
       ⟨none, .st 1 (.t 10) (.t 33), [], none⟩])
    (.seq (.live [2, 4, 6, 10]) (.seq (.seq (.reg [⟨some 34, .fa false 1 0 (.t 4), [], none⟩,
         ⟨some 35, .ld false 1 (.t 34), [], none⟩,
         ⟨some 36, .mv (.t 2), [], none⟩,
         ⟨some 37, .bin 0 .add (.t 36) (.c (.int .i64 1)), [], none⟩,
         ⟨some 38, .slc 1 (.t 35) none (some (.t 37)) none, [], none⟩,
         ⟨some 39, .len (.t 38), [], none⟩,
         ⟨some 40, .mv (.c (.int .i64 0)), [], none⟩])
      (.seq (.live [6, 10, 38, 39, 40]) (.blk 1 (.loop (.seq (.live [6, 10, 38, 39, 40]) (.seq (.reg [⟨some 41, .bin 0 .lss (.t 40) (.t 39), [], none⟩])
         (.seq (.live [6, 10, 38, 39, 40, 41]) (.seq (.cnd (.t 41) .skip
           (.exit 1))
          (.seq (.blk 2 (.seq (.reg [⟨some 42, .ia 1 (.t 38) (.t 40), [], none⟩,
                ⟨some 43, .ld false 1 (.t 42), [], none⟩,
                ⟨some 12, .mv (.t 43), [], none⟩])
             (.seq (.live [6, 10, 12, 38, 39, 40]) (.drw [⟨some 44, .fa false 1 0 (.t 10), [], none⟩,
                ⟨some 45, .ld false 1 (.t 44), [0], none⟩,
                ⟨some 46, .mv (.t 12), [], none⟩,
                ⟨some 47, .call (.c (.fn (.func 184) [] [])) [.t 46], [2], none⟩,
                ⟨some 48, .bsl false 1 (.lit (.slice none 0 0)) 1 [(0, .t 47)], [3], none⟩,
                ⟨some 49, .app false 1 24 (.t 45) (.t 48), [1, 4, 3], none⟩,
                ⟨some 50, .fa false 1 0 (.t 10), [0, 1, 2, 3, 4, 5], none⟩,
                ⟨none, .st 1 (.t 50) (.t 49), [6, 5, 0, 1, 2, 3, 4], none⟩]))))
           (.seq (.live [6, 10, 38, 39, 40]) (.reg [⟨some 51, .bin 0 .add (.t 40) (.c (.int .i64 1)), [], none⟩,
              ⟨some 40, .mv (.t 51), [], none⟩])))))))))))
     (.seq (.live [6, 10]) (.seq (.reg [⟨some 52, .ld true 1 (.t 10), [], none⟩,
         ⟨none, .st 1 (.t 6) (.t 52), [], none⟩,
         ⟨some 7, .mv (.c (.int .i64 0)), [], none⟩])
      .ret))))))))))) }

/-- (*arras/eval.Eval).own -/
def ir59 : IFn :=
 { nt := 21, res := [.cell 4 true 1],
   body := (.seq (.reg [⟨some 3, .box 1 (.t 1), [], none⟩,
    ⟨some 4, .new (.agg [.lit (.slice none 0 0)]), [], none⟩])
 (.seq (.live [0, 3, 4]) (.seq (.drw [⟨some 8, .mv (.t 0), [], none⟩,
     ⟨some 9, .nilc (.t 8), [0], none⟩,
     ⟨some 10, .fa false 1 4 (.t 9), [1], none⟩,
     ⟨some 11, .ld false 1 (.t 10), [2], none⟩,
     ⟨some 12, .ld true 1 (.t 3), [], none⟩,
     ⟨some 13, .fa false 1 0 (.t 3), [], none⟩,
     ⟨some 14, .ld false 1 (.t 13), [5], none⟩,
     ⟨some 15, .len (.t 14), [6], none⟩,
     ⟨some 16, .bin 0 .sub (.t 15) (.c (.int .i64 1)), [7], none⟩,
     ⟨some 17, .call (.c (.fn (.func 129) [] [])) [.t 11, .t 12, .t 16], [3, 4, 8], none⟩,
     ⟨some 7, .mv (.t 17), [9], none⟩,
     ⟨some 18, .ext (.t 7) 0, [10], none⟩,
     ⟨some 19, .ext (.t 7) 1, [10], none⟩,
     ⟨some 5, .new (.agg [.lit (.slice none 0 0)]), [], none⟩,
     ⟨none, .st 1 (.t 5) (.t 18), [13, 11, 9, 0, 1, 2, 3, 4, 5, 6, 7, 8, 10], none⟩,
     ⟨some 6, .mv (.t 19), [12, 14, 0, 1, 2, 3, 4, 5, 6, 7, 8, 9, 10, 11, 13], none⟩])
  (.seq (.live [4, 5]) (.seq (.reg [⟨some 20, .ld true 1 (.t 5), [], none⟩,
      ⟨none, .st 1 (.t 4) (.t 20), [], none⟩])
   .ret))))) }

/-- (*arras/ring.Ring).pair -/
def ir170 : IFn :=
 { nt := 35, res := [.t 6],
   body := (.seq (.reg [⟨some 4, .box 1 (.t 1), [], none⟩,
    ⟨some 5, .box 1 (.t 2), [], none⟩,
    ⟨some 6, .mv (.c (.int .i64 0)), [], none⟩])
 (.seq (.live [0, 4, 5]) (.seq (.reg [⟨some 12, .mv (.t 0), [], none⟩,
     ⟨some 13, .ld true 1 (.t 4), [], none⟩,
     ⟨some 14, .call (.c (.fn (.func 165) [] [])) [.t 12, .t 13], [], none⟩,
     ⟨some 11, .mv (.t 14), [], none⟩,
     ⟨some 15, .ext (.t 11) 0, [], none⟩,
     ⟨some 16, .ext (.t 11) 1, [], none⟩,
     ⟨some 7, .mv (.t 15), [], none⟩,
     ⟨some 8, .mv (.t 16), [], none⟩])
  (.seq (.live [0, 5, 7, 8]) (.seq (.reg [⟨some 18, .mv (.t 0), [], none⟩,
      ⟨some 19, .ld true 1 (.t 5), [], none⟩,
      ⟨some 20, .call (.c (.fn (.func 165) [] [])) [.t 18, .t 19], [], none⟩,
      ⟨some 17, .mv (.t 20), [], none⟩,
      ⟨some 21, .ext (.t 17) 0, [], none⟩,
      ⟨some 22, .ext (.t 17) 1, [], none⟩,
      ⟨some 9, .mv (.t 21), [], none⟩,
      ⟨some 10, .mv (.t 22), [], none⟩])
   (.seq (.live [7, 8, 9, 10]) (.seq (.blk 0 (.seq (.reg [⟨some 24, .mv (.t 8), [], none⟩,
         ⟨some 25, .bin 0 .neq (.t 24) (.c (.int .i64 0)), [], none⟩,
         ⟨some 23, .mv (.t 25), [], none⟩])
      (.seq (.live [7, 8, 9, 10, 23]) (.cnd (.t 23) (.seq (.reg [⟨some 26, .mv (.t 8), [], none⟩,
           ⟨some 6, .mv (.t 26), [], none⟩])
        .ret)
       (.seq (.reg [⟨some 28, .mv (.t 10), [], none⟩,
           ⟨some 29, .bin 0 .neq (.t 28) (.c (.int .i64 0)), [], none⟩,
           ⟨some 27, .mv (.t 29), [], none⟩])
        (.seq (.live [7, 9, 10, 27]) (.cnd (.t 27) (.seq (.reg [⟨some 30, .mv (.t 10), [], none⟩,
             ⟨some 6, .mv (.t 30), [], none⟩])
          .ret)
         (.seq (.reg [⟨some 32, .mv (.t 7), [], none⟩,
             ⟨some 33, .mv (.t 9), [], none⟩,
             ⟨some 34, .bin 0 .neq (.t 32) (.t 33), [], none⟩,
             ⟨some 31, .mv (.t 34), [], none⟩])
          (.seq (.live [31]) (.cnd (.t 31) (.seq (.reg [⟨some 6, .mv (.c (.int .i64 10)), [], none⟩])
            .ret)
           .skip))))))))))
    (.seq (.live []) (.seq (.reg [⟨some 6, .mv (.c (.int .i64 0)), [], none⟩])
     .ret))))))))) }

/-- (*arras/ring.Ring).each -/
def ir130 : IFn :=
 { nt := 86, res := [.cell 8 true 1, .t 9],
   body := (.seq (.reg [⟨some 5, .box 1 (.t 1), [], none⟩,
    ⟨some 6, .box 1 (.t 2), [], none⟩,
    ⟨some 8, .new (.agg [.lit (.slice none 0 0)]), [], none⟩,
    ⟨some 9, .mv (.c (.int .i64 0)), [], none⟩])
 (.seq (.live [0, 3, 5, 6, 8]) (.seq (.seq (.reg [⟨some 14, .mv (.t 0), [], none⟩,
      ⟨some 15, .ld true 1 (.t 5), [], none⟩,
      ⟨some 16, .ld true 1 (.t 6), [], none⟩,
      ⟨some 17, .call (.c (.fn (.func 170) [] [])) [.t 14, .t 15, .t 16], [], none⟩,
      ⟨some 10, .mv (.t 17), [], none⟩])
   (.seq (.live [0, 3, 5, 6, 8, 10]) (.seq (.reg [⟨some 18, .mv (.t 10), [], none⟩,
       ⟨some 19, .bin 0 .neq (.t 18) (.c (.int .i64 0)), [], none⟩])
    (.seq (.live [0, 3, 5, 6, 8, 10, 19]) (.cnd (.t 19) (.seq (.reg [⟨some 20, .build [.lit (.slice none 0 0)] [], [], none⟩,
         ⟨some 21, .mv (.t 10), [], none⟩,
         ⟨none, .st 1 (.t 8) (.t 20), [], none⟩,
         ⟨some 9, .mv (.t 21), [], none⟩])
      .ret)
     .skip)))))
  (.seq (.live [0, 3, 5, 6, 8]) (.seq (.reg [⟨some 22, .fa false 1 0 (.t 5), [], none⟩,
      ⟨some 23, .ld false 1 (.t 22), [], none⟩,
      ⟨some 24, .len (.t 23), [], none⟩,
      ⟨some 25, .mksl false 1 (.lit (.slice none 0 0)) 24 (.t 24) (.t 24), [], none⟩,
      ⟨some 26, .build [.lit (.slice none 0 0)] [(0, 1, .t 25)], [], none⟩,
      ⟨some 11, .new (.agg [.lit (.slice none 0 0)]), [], none⟩,
      ⟨none, .st 1 (.t 11) (.t 26), [], none⟩])
   (.seq (.live [0, 3, 5, 6, 8, 11]) (.seq (.seq (.reg [⟨some 27, .fa false 1 0 (.t 11), [], none⟩,
        ⟨some 28, .ld false 1 (.t 27), [], none⟩,
        ⟨some 29, .len (.t 28), [], none⟩,
        ⟨some 30, .mv (.c (.int .i64 0)), [], none⟩])
     (.seq (.live [0, 3, 5, 6, 8, 11, 29, 30]) (.blk 0 (.loop (.seq (.live [0, 3, 5, 6, 8, 11, 29, 30]) (.seq (.reg [⟨some 31, .bin 0 .lss (.t 30) (.t 29), [], none⟩])
        (.seq (.live [0, 3, 5, 6, 8, 11, 29, 30, 31]) (.seq (.cnd (.t 31) .skip
          (.exit 0))
         (.seq (.blk 1 (.seq (.reg [⟨some 32, .mv (.t 30), [], none⟩,
               ⟨some 12, .mv (.t 32), [], none⟩])
            (.seq (.live [0, 3, 5, 6, 8, 11, 12, 29, 30]) (.seq (.drw [⟨some 33, .fa false 1 0 (.t 11), [], none⟩,
                ⟨some 34, .ld false 1 (.t 33), [0], none⟩,
                ⟨some 35, .mv (.t 12), [], none⟩,
                ⟨some 36, .mv (.t 0), [], none⟩,
                ⟨some 37, .nilc (.t 36), [3], none⟩,
                ⟨some 38, .fa false 1 0 (.t 37), [4], none⟩,
                ⟨some 39, .ld false 1 (.t 38), [5], none⟩,
                ⟨some 40, .mksl true 1 (.int .u64 0) 8 (.t 39) (.t 39), [6], none⟩,
                ⟨some 41, .ia 1 (.t 34) (.t 35), [1, 2, 0, 3, 4, 5, 6, 7], none⟩,
                ⟨none, .st 1 (.t 41) (.t 40), [8, 7, 0, 1, 2, 3, 4, 5, 6], none⟩])
             (.seq (.live [0, 3, 5, 6, 8, 11, 12, 29, 30]) (.seq (.reg [⟨some 42, .fa false 1 0 (.t 11), [], none⟩,
                 ⟨some 43, .ld false 1 (.t 42), [], none⟩,
                 ⟨some 44, .mv (.t 12), [], none⟩,
                 ⟨some 45, .ia 1 (.t 43) (.t 44), [], none⟩,
                 ⟨some 46, .ld false 1 (.t 45), [], none⟩,
                 ⟨some 47, .len (.t 46), [], none⟩,
                 ⟨some 48, .mv (.c (.int .i64 0)), [], none⟩])
              (.seq (.live [0, 3, 5, 6, 8, 11, 12, 29, 30, 47, 48]) (.blk 2 (.loop (.seq (.live [0, 3, 5, 6, 8, 11, 12, 29, 30, 47, 48]) (.seq (.reg [⟨some 49, .bin 0 .lss (.t 48) (.t 47), [], none⟩])
                 (.seq (.live [0, 3, 5, 6, 8, 11, 12, 29, 30, 47, 48, 49]) (.seq (.cnd (.t 49) .skip
                   (.exit 2))
                  (.seq (.blk 3 (.seq (.reg [⟨some 50, .mv (.t 48), [], none⟩,
                        ⟨some 13, .mv (.t 50), [], none⟩])
                     (.seq (.live [0, 3, 5, 6, 8, 11, 12, 13, 29, 30, 47, 48]) (.drw [⟨some 51, .fa false 1 0 (.t 11), [], none⟩,
                        ⟨some 52, .ld false 1 (.t 51), [0], none⟩,
                        ⟨some 53, .mv (.t 12), [], none⟩,
                        ⟨some 54, .ia 1 (.t 52) (.t 53), [1, 2], none⟩,
                        ⟨some 55, .ld false 1 (.t 54), [3], none⟩,
                        ⟨some 56, .mv (.t 13), [], none⟩,
                        ⟨some 57, .mv (.t 3), [], none⟩,
                        ⟨some 58, .fa false 1 0 (.t 5), [], none⟩,
                        ⟨some 59, .ld false 1 (.t 58), [7], none⟩,
                        ⟨some 60, .mv (.t 12), [], none⟩,
                        ⟨some 61, .ia 1 (.t 59) (.t 60), [8, 9], none⟩,
                        ⟨some 62, .ld false 1 (.t 61), [10], none⟩,
                        ⟨some 63, .mv (.t 13), [], none⟩,
                        ⟨some 64, .ia 1 (.t 62) (.t 63), [11, 12], none⟩,
                        ⟨some 65, .ld false 1 (.t 64), [13], none⟩,
                        ⟨some 66, .fa false 1 0 (.t 6), [], none⟩,
                        ⟨some 67, .ld false 1 (.t 66), [15], none⟩,
                        ⟨some 68, .mv (.t 12), [], none⟩,
                        ⟨some 69, .ia 1 (.t 67) (.t 68), [16, 17], none⟩,
                        ⟨some 70, .ld false 1 (.t 69), [18], none⟩,
                        ⟨some 71, .mv (.t 13), [], none⟩,
                        ⟨some 72, .ia 1 (.t 70) (.t 71), [19, 20], none⟩,
                        ⟨some 73, .ld false 1 (.t 72), [21], none⟩,
                        ⟨some 74, .mv (.t 0), [], none⟩,
                        ⟨some 75, .nilc (.t 74), [23], none⟩,
                        ⟨some 76, .fa false 1 1 (.t 75), [24], none⟩,
                        ⟨some 77, .ld false 1 (.t 76), [25], none⟩,
                        ⟨some 78, .mv (.t 12), [], none⟩,
                        ⟨some 79, .ia 1 (.t 77) (.t 78), [26, 27], none⟩,
                        ⟨some 80, .ld false 1 (.t 79), [28], none⟩,
                        ⟨some 81, .call (.t 57) [.t 65, .t 73, .t 80], [6, 14, 22, 29], none⟩,
                        ⟨some 82, .ia 1 (.t 55) (.t 56), [4, 5, 0, 1, 2, 3, 6, 7, 8, 9, 10, 11, 12, 13, 14, 15, 16, 17, 18, 19, 20, 21, 22, 23, 24, 25, 26, 27, 28, 29, 30], none⟩,
                        ⟨none, .st 1 (.t 82) (.t 81), [31, 30, 0, 1, 2, 3, 4, 5, 6, 7, 8, 9, 10, 11, 12, 13, 14, 15, 16, 17, 18, 19, 20, 21, 22, 23, 24, 25, 26, 27, 28, 29], none⟩]))))
                   (.seq (.live [0, 3, 5, 6, 8, 11, 12, 29, 30, 47, 48]) (.reg [⟨some 83, .bin 0 .add (.t 48) (.c (.int .i64 1)), [], none⟩,
                      ⟨some 48, .mv (.t 83), [], none⟩]))))))))))))))))
          (.seq (.live [0, 3, 5, 6, 8, 11, 29, 30]) (.reg [⟨some 84, .bin 0 .add (.t 30) (.c (.int .i64 1)), [], none⟩,
             ⟨some 30, .mv (.t 84), [], none⟩])))))))))))
    (.seq (.live [8, 11]) (.seq (.reg [⟨some 85, .ld true 1 (.t 11), [], none⟩,
        ⟨none, .st 1 (.t 8) (.t 85), [], none⟩,
        ⟨some 9, .mv (.c (.int .i64 0)), [], none⟩])
     .ret))))))))) }

/-- arras/word.Add -/
def ir131 : IFn :=
 { nt := 32, res := [.t 6],
   body := (.seq (.reg [⟨some 6, .mv (.c (.int .u64 0)), [], none⟩])
 (.seq (.live [0, 1, 2, 24, 25, 26]) (.seq (.seq (.reg [⟨some 9, .mv (.t 2), [], none⟩,
      ⟨some 10, .bin 0 .eql (.t 9) (.c (.int .u64 0)), [], none⟩])
   (.seq (.live [0, 1, 2, 10, 24, 25, 26]) (.cnd (.t 10) (.seq (.reg [⟨some 6, .mv (.c (.int .u64 0)), [], none⟩])
     .ret)
    .skip)))
  (.seq (.live [0, 1, 2, 24, 25, 26]) (.seq (.drw [⟨some 12, .mv (.t 0), [], none⟩,
      ⟨some 13, .mv (.t 2), [], none⟩,
      ⟨some 14, .bin 0 .rem (.t 12) (.t 13), [0, 1], none⟩,
      ⟨some 15, .mv (.t 1), [], none⟩,
      ⟨some 16, .mv (.t 2), [], none⟩,
      ⟨some 17, .bin 0 .rem (.t 15) (.t 16), [3, 4], none⟩,
      ⟨some 18, .call (.c (.fn (.func 197) [] [])) [.t 14, .t 17, .c (.int .u64 0)], [2, 5], none⟩,
      ⟨some 11, .mv (.t 18), [6], none⟩,
      ⟨some 19, .ext (.t 11) 0, [7], none⟩,
      ⟨some 20, .ext (.t 11) 1, [7], none⟩,
      ⟨some 7, .mv (.t 19), [8, 6, 0, 1, 2, 3, 4, 5, 7], none⟩,
      ⟨some 8, .mv (.t 20), [9, 10, 0, 1, 2, 3, 4, 5, 6, 7, 8], none⟩])
   (.seq (.live [2, 7, 8, 24, 25, 26]) (.seq (.seq (.reg [⟨some 21, .mv (.t 8), [], none⟩,
        ⟨some 22, .bin 0 .eql (.t 21) (.c (.int .u64 1)), [], none⟩,
        ⟨some 23, .mv (.t 22), [], none⟩,
        ⟨some 24, .mv (.t 7), [], some (23, false)⟩,
        ⟨some 25, .mv (.t 2), [], some (23, false)⟩,
        ⟨some 26, .bin 0 .geq (.t 24) (.t 25), [], some (23, false)⟩,
        ⟨some 27, .pick (.t 23) (.c (.bool true)) (.t 26), [], none⟩])
     (.seq (.live [2, 7, 27]) (.cnd (.t 27) (.reg [⟨some 28, .mv (.t 7), [], none⟩,
         ⟨some 29, .mv (.t 2), [], none⟩,
         ⟨some 30, .bin 0 .sub (.t 28) (.t 29), [], none⟩,
         ⟨some 7, .mv (.t 30), [], none⟩])
      .skip)))
    (.seq (.live [7]) (.seq (.reg [⟨some 31, .mv (.t 7), [], none⟩,
        ⟨some 6, .mv (.t 31), [], none⟩])
     .ret))))))))) }

/-- (*arras/ring.Ring).Add -/
def ir60 : IFn :=
 { nt := 14, res := [.cell 6 true 1, .t 7],
   body := (.seq (.reg [⟨some 4, .box 1 (.t 1), [], none⟩,
    ⟨some 5, .box 1 (.t 2), [], none⟩,
    ⟨some 6, .new (.agg [.lit (.slice none 0 0)]), [], none⟩,
    ⟨some 7, .mv (.c (.int .i64 0)), [], none⟩])
 (.seq (.live [0, 4, 5, 6]) (.seq (.reg [⟨some 8, .mv (.t 0), [], none⟩,
     ⟨some 9, .ld true 1 (.t 4), [], none⟩,
     ⟨some 10, .ld true 1 (.t 5), [], none⟩,
     ⟨some 11, .call (.c (.fn (.func 130) [] [])) [.t 8, .t 9, .t 10, .c (.fn (.func 131) [] [])], [], none⟩,
     ⟨some 12, .ext (.t 11) 0, [], none⟩,
     ⟨some 13, .ext (.t 11) 1, [], none⟩,
     ⟨none, .st 1 (.t 6) (.t 12), [], none⟩,
     ⟨some 7, .mv (.t 13), [], none⟩])
  .ret))) }

/-- (*arras/eval.Eval).Add -/
def ir16 : IFn :=
 { nt := 84, res := [.cell 6 true 1, .t 7],
   body := (.seq (.reg [⟨some 4, .box 1 (.t 1), [], none⟩,
    ⟨some 5, .box 1 (.t 2), [], none⟩,
    ⟨some 6, .new (.agg [.lit (.slice none 0 0)]), [], none⟩,
    ⟨some 7, .mv (.c (.int .i64 0)), [], none⟩])
 (.seq (.live [0, 4, 5, 6]) (.seq (.reg [⟨some 15, .mv (.t 0), [], none⟩,
     ⟨some 16, .ld true 1 (.t 4), [], none⟩,
     ⟨some 17, .ld true 1 (.t 5), [], none⟩,
     ⟨some 18, .bsl false 1 (.agg [.lit (.slice none 0 0)]) 2 [(0, .t 16), (1, .t 17)], [], none⟩,
     ⟨some 19, .call (.c (.fn (.func 58) [] [])) [.t 15, .t 18], [], none⟩,
     ⟨some 14, .mv (.t 19), [], none⟩,
     ⟨some 20, .ext (.t 14) 0, [], none⟩,
     ⟨some 21, .ext (.t 14) 1, [], none⟩,
     ⟨some 8, .mv (.t 20), [], none⟩,
     ⟨some 9, .mv (.t 21), [], none⟩])
  (.seq (.live [0, 4, 5, 6, 8, 9]) (.seq (.blk 0 (.seq (.reg [⟨some 23, .mv (.t 9), [], none⟩,
        ⟨some 24, .bin 0 .neq (.t 23) (.c (.int .i64 0)), [], none⟩,
        ⟨some 22, .mv (.t 24), [], none⟩])
     (.seq (.live [0, 4, 5, 6, 8, 9, 22]) (.cnd (.t 22) (.seq (.reg [⟨some 25, .build [.lit (.slice none 0 0)] [], [], none⟩,
          ⟨some 26, .mv (.t 9), [], none⟩,
          ⟨none, .st 1 (.t 6) (.t 25), [], none⟩,
          ⟨some 7, .mv (.t 26), [], none⟩])
       .ret)
      (.seq (.drw [⟨some 28, .mv (.t 8), [], none⟩,
          ⟨some 29, .ia 1 (.t 28) (.c (.int .i64 0)), [0], none⟩,
          ⟨some 30, .ld false 1 (.t 29), [1], none⟩,
          ⟨some 31, .mv (.t 8), [], none⟩,
          ⟨some 32, .ia 1 (.t 31) (.c (.int .i64 1)), [3], none⟩,
          ⟨some 33, .ld false 1 (.t 32), [4], none⟩,
          ⟨some 34, .bin 0 .neq (.t 30) (.t 33), [2, 5], none⟩,
          ⟨some 27, .mv (.t 34), [6], none⟩])
       (.seq (.live [0, 4, 5, 6, 27]) (.cnd (.t 27) (.seq (.reg [⟨some 35, .build [.lit (.slice none 0 0)] [], [], none⟩,
            ⟨none, .st 1 (.t 6) (.t 35), [], none⟩,
            ⟨some 7, .mv (.c (.int .i64 10)), [], none⟩])
         .ret)
        .skip)))))))
   (.seq (.live [0, 4, 5, 6]) (.seq (.seq (.reg [⟨some 36, .fa false 1 0 (.t 4), [], none⟩,
        ⟨some 37, .ld false 1 (.t 36), [], none⟩,
        ⟨some 38, .len (.t 37), [], none⟩,
        ⟨some 39, .fa false 1 0 (.t 5), [], none⟩,
        ⟨some 40, .ld false 1 (.t 39), [], none⟩,
        ⟨some 41, .len (.t 40), [], none⟩,
        ⟨some 42, .bin 0 .lss (.t 38) (.t 41), [], none⟩])
     (.seq (.live [0, 4, 5, 6, 42]) (.cnd (.t 42) (.reg [⟨some 43, .ld true 1 (.t 5), [], none⟩,
         ⟨some 44, .ld true 1 (.t 4), [], none⟩,
         ⟨none, .st 1 (.t 4) (.t 43), [], none⟩,
         ⟨none, .st 1 (.t 5) (.t 44), [], none⟩])
      .skip)))
    (.seq (.live [0, 4, 5, 6]) (.seq (.reg [⟨some 45, .build [.lit (.slice none 0 0)] [], [], none⟩,
        ⟨some 10, .new (.agg [.lit (.slice none 0 0)]), [], none⟩,
        ⟨none, .st 1 (.t 10) (.t 45), [], none⟩])
     (.seq (.live [0, 4, 5, 6, 10]) (.seq (.seq (.reg [⟨some 46, .fa false 1 0 (.t 4), [], none⟩,
          ⟨some 47, .ld false 1 (.t 46), [], none⟩,
          ⟨some 48, .len (.t 47), [], none⟩,
          ⟨some 49, .mv (.c (.int .i64 0)), [], none⟩])
       (.seq (.live [0, 5, 6, 10, 47, 48, 49]) (.blk 1 (.loop (.seq (.live [0, 5, 6, 10, 47, 48, 49]) (.seq (.reg [⟨some 50, .bin 0 .lss (.t 49) (.t 48), [], none⟩])
          (.seq (.live [0, 5, 6, 10, 47, 48, 49, 50]) (.seq (.cnd (.t 50) .skip
            (.exit 1))
           (.seq (.blk 2 (.seq (.reg [⟨some 51, .mv (.t 49), [], none⟩,
                 ⟨some 52, .ia 1 (.t 47) (.t 49), [], none⟩,
                 ⟨some 53, .ld true 1 (.t 52), [], none⟩,
                 ⟨some 12, .new (.agg [.lit (.slice none 0 0)]), [], none⟩,
                 ⟨some 11, .mv (.t 51), [], none⟩,
                 ⟨none, .st 1 (.t 12) (.t 53), [], none⟩])
              (.seq (.live [0, 5, 6, 10, 11, 12, 47, 48, 49]) (.seq (.reg [⟨some 54, .mv (.t 0), [], none⟩,
                  ⟨some 55, .ld true 1 (.t 12), [], none⟩,
                  ⟨some 56, .call (.c (.fn (.func 59) [] [])) [.t 54, .t 55], [], none⟩,
                  ⟨some 13, .new (.agg [.lit (.slice none 0 0)]), [], none⟩,
                  ⟨none, .st 1 (.t 13) (.t 56), [], none⟩])
               (.seq (.live [0, 5, 6, 10, 11, 12, 13, 47, 48, 49]) (.seq (.seq (.reg [⟨some 57, .mv (.t 11), [], none⟩,
                    ⟨some 58, .fa false 1 0 (.t 5), [], none⟩,
                    ⟨some 59, .ld false 1 (.t 58), [], none⟩,
                    ⟨some 60, .len (.t 59), [], none⟩,
                    ⟨some 61, .bin 0 .lss (.t 57) (.t 60), [], none⟩])
                 (.seq (.live [0, 5, 6, 10, 11, 12, 13, 47, 48, 49, 61]) (.cnd (.t 61) (.drw [⟨some 63, .mv (.t 0), [], none⟩,
                     ⟨some 64, .nilc (.t 63), [0], none⟩,
                     ⟨some 65, .fa false 1 4 (.t 64), [1], none⟩,
                     ⟨some 66, .ld false 1 (.t 65), [2], none⟩,
                     ⟨some 67, .ld true 1 (.t 12), [], none⟩,
                     ⟨some 68, .fa false 1 0 (.t 5), [], none⟩,
                     ⟨some 69, .ld false 1 (.t 68), [5], none⟩,
                     ⟨some 70, .mv (.t 11), [], none⟩,
                     ⟨some 71, .ia 1 (.t 69) (.t 70), [6, 7], none⟩,
                     ⟨some 72, .ld true 1 (.t 71), [8], none⟩,
                     ⟨some 73, .call (.c (.fn (.func 60) [] [])) [.t 66, .t 67, .t 72], [3, 4, 9], none⟩,
                     ⟨some 62, .mv (.t 73), [10], none⟩,
                     ⟨some 74, .ext (.t 62) 0, [11], none⟩,
                     ⟨some 75, .ext (.t 62) 1, [11], none⟩,
                     ⟨none, .st 1 (.t 13) (.t 74), [12, 10, 0, 1, 2, 3, 4, 5, 6, 7, 8, 9, 11], none⟩])
                  .skip)))
                (.seq (.live [0, 5, 6, 10, 13, 47, 48, 49]) (.reg [⟨some 76, .fa false 1 0 (.t 10), [], none⟩,
                   ⟨some 77, .ld false 1 (.t 76), [], none⟩,
                   ⟨some 78, .ld true 1 (.t 13), [], none⟩,
                   ⟨some 79, .bsl false 1 (.agg [.lit (.slice none 0 0)]) 1 [(0, .t 78)], [], none⟩,
                   ⟨some 80, .app false 1 24 (.t 77) (.t 79), [], none⟩,
                   ⟨some 81, .fa false 1 0 (.t 10), [], none⟩,
                   ⟨none, .st 1 (.t 81) (.t 80), [], none⟩]))))))))
            (.seq (.live [0, 5, 6, 10, 47, 48, 49]) (.reg [⟨some 82, .bin 0 .add (.t 49) (.c (.int .i64 1)), [], none⟩,
               ⟨some 49, .mv (.t 82), [], none⟩])))))))))))
      (.seq (.live [6, 10]) (.seq (.reg [⟨some 83, .ld true 1 (.t 10), [], none⟩,
          ⟨none, .st 1 (.t 6) (.t 83), [], none⟩,
          ⟨some 7, .mv (.c (.int .i64 0)), [], none⟩])
       .ret))))))))))))) }

/-- (*arras/ntt.Table).fits -/
def ir239 : IFn :=
 { nt := 27, res := [.t 4],
   body := (.seq (.reg [⟨some 4, .mv (.c (.bool false)), [], none⟩])
 (.seq (.live [0, 1]) (.seq (.seq (.reg [⟨some 7, .mv (.t 1), [], none⟩,
      ⟨some 8, .len (.t 7), [], none⟩,
      ⟨some 9, .mv (.t 0), [], none⟩,
      ⟨some 10, .nilc (.t 9), [], none⟩,
      ⟨some 11, .fa false 1 0 (.t 10), [], none⟩,
      ⟨some 12, .ld false 1 (.t 11), [], none⟩,
      ⟨some 13, .bin 0 .neq (.t 8) (.t 12), [], none⟩])
   (.seq (.live [0, 1, 13]) (.cnd (.t 13) (.seq (.reg [⟨some 4, .mv (.c (.bool false)), [], none⟩])
     .ret)
    .skip)))
  (.seq (.live [0, 1]) (.seq (.seq (.reg [⟨some 14, .mv (.t 1), [], none⟩,
       ⟨some 15, .len (.t 14), [], none⟩,
       ⟨some 16, .mv (.c (.int .i64 0)), [], none⟩])
    (.seq (.live [0, 14, 15, 16]) (.blk 0 (.loop (.seq (.live [0, 14, 15, 16]) (.seq (.reg [⟨some 17, .bin 0 .lss (.t 16) (.t 15), [], none⟩])
       (.seq (.live [0, 14, 15, 16, 17]) (.seq (.cnd (.t 17) .skip
         (.exit 0))
        (.seq (.blk 1 (.seq (.reg [⟨some 18, .ia 1 (.t 14) (.t 16), [], none⟩,
              ⟨some 19, .ld false 1 (.t 18), [], none⟩,
              ⟨some 6, .mv (.t 19), [], none⟩])
           (.seq (.live [0, 6, 14, 15, 16]) (.seq (.reg [⟨some 20, .mv (.t 6), [], none⟩,
               ⟨some 21, .mv (.t 0), [], none⟩,
               ⟨some 22, .nilc (.t 21), [], none⟩,
               ⟨some 23, .fa false 1 1 (.t 22), [], none⟩,
               ⟨some 24, .ld false 1 (.t 23), [], none⟩,
               ⟨some 25, .bin 0 .geq (.t 20) (.t 24), [], none⟩])
            (.seq (.live [0, 14, 15, 16, 25]) (.cnd (.t 25) (.seq (.reg [⟨some 4, .mv (.c (.bool false)), [], none⟩])
              .ret)
             .skip))))))
         (.seq (.live [0, 14, 15, 16]) (.reg [⟨some 26, .bin 0 .add (.t 16) (.c (.int .i64 1)), [], none⟩,
            ⟨some 16, .mv (.t 26), [], none⟩])))))))))))
   (.seq (.live []) (.seq (.reg [⟨some 4, .mv (.c (.bool true)), [], none⟩])
    .ret))))))) }

/-- math/bits.Len32 -/
def ir249 : IFn :=
 { nt := 19, res := [.t 2],
   body := (.seq (.reg [⟨some 2, .mv (.c (.int .i64 0)), [], none⟩])
 (.seq (.live [0, 2]) (.seq (.seq (.reg [⟨some 3, .mv (.t 0), [], none⟩,
      ⟨some 4, .bin 0 .geq (.t 3) (.c (.int .u32 65536)), [], none⟩])
   (.seq (.live [0, 2, 4]) (.cnd (.t 4) (.seq (.reg [⟨some 5, .mv (.t 0), [], none⟩,
        ⟨some 6, .bin 0 .shr (.t 5) (.c (.int .u64 16)), [], none⟩,
        ⟨some 0, .mv (.t 6), [], none⟩])
     (.seq (.live [0]) (.reg [⟨some 2, .mv (.c (.int .i64 16)), [], none⟩])))
    .skip)))
  (.seq (.live [0, 2]) (.seq (.seq (.reg [⟨some 7, .mv (.t 0), [], none⟩,
       ⟨some 8, .bin 0 .geq (.t 7) (.c (.int .u32 256)), [], none⟩])
    (.seq (.live [0, 2, 8]) (.cnd (.t 8) (.seq (.reg [⟨some 9, .mv (.t 0), [], none⟩,
         ⟨some 10, .bin 0 .shr (.t 9) (.c (.int .u64 8)), [], none⟩,
         ⟨some 0, .mv (.t 10), [], none⟩])
      (.seq (.live [0, 2]) (.reg [⟨some 11, .mv (.t 2), [], none⟩,
         ⟨some 12, .bin 0 .add (.t 11) (.c (.int .i64 8)), [], none⟩,
         ⟨some 2, .mv (.t 12), [], none⟩])))
     .skip)))
   (.seq (.live [0, 2]) (.seq (.reg [⟨some 13, .mv (.t 2), [], none⟩,
       ⟨some 14, .mv (.t 0), [], none⟩,
       ⟨some 15, .conv .u8 (.t 14), [], none⟩,
       ⟨some 16, .sidx (.c (.lit (.string ⟨#[0, 1, 2, 2, 3, 3, 3, 3, 4, 4, 4, 4, 4, 4, 4, 4, 5, 5, 5, 5, 5, 5, 5, 5, 5, 5, 5, 5, 5, 5, 5, 5, 6, 6, 6, 6, 6, 6, 6, 6, 6, 6, 6, 6, 6, 6, 6, 6, 6, 6, 6, 6, 6, 6, 6, 6, 6, 6, 6, 6, 6, 6, 6, 6, 7, 7, 7, 7, 7, 7, 7, 7, 7, 7, 7, 7, 7, 7, 7, 7, 7, 7, 7, 7, 7, 7, 7, 7, 7, 7, 7, 7, 7, 7, 7, 7, 7, 7, 7, 7, 7, 7, 7, 7, 7, 7, 7, 7, 7, 7, 7, 7, 7, 7, 7, 7, 7, 7, 7, 7, 7, 7, 7, 7, 7, 7, 7, 7, 8, 8, 8, 8, 8, 8, 8, 8, 8, 8, 8, 8, 8, 8, 8, 8, 8, 8, 8, 8, 8, 8, 8, 8, 8, 8, 8, 8, 8, 8, 8, 8, 8, 8, 8, 8, 8, 8, 8, 8, 8, 8, 8, 8, 8, 8, 8, 8, 8, 8, 8, 8, 8, 8, 8, 8, 8, 8, 8, 8, 8, 8, 8, 8, 8, 8, 8, 8, 8, 8, 8, 8, 8, 8, 8, 8, 8, 8, 8, 8, 8, 8, 8, 8, 8, 8, 8, 8, 8, 8, 8, 8, 8, 8, 8, 8, 8, 8, 8, 8, 8, 8, 8, 8, 8, 8, 8, 8, 8, 8, 8, 8, 8, 8, 8, 8, 8, 8, 8, 8, 8, 8, 8, 8, 8, 8, 8, 8]⟩))) (.t 15), [], none⟩,
       ⟨some 17, .conv .i64 (.t 16), [], none⟩,
       ⟨some 18, .bin 0 .add (.t 13) (.t 17), [], none⟩,
       ⟨some 2, .mv (.t 18), [], none⟩])
    .ret))))))) }

/-- math/bits.Len -/
def ir246 : IFn :=
 { nt := 8, res := [.t 2],
   body := (.seq (.reg [⟨some 2, .mv (.c (.int .i64 0)), [], none⟩])
 (.seq (.live [0]) (.seq (.cnd (.c (.bool false)) (.seq (.reg [⟨some 3, .mv (.t 0), [], none⟩,
       ⟨some 4, .conv .u32 (.t 3), [], none⟩,
       ⟨some 5, .call (.c (.fn (.func 249) [] [])) [.t 4], [], none⟩,
       ⟨some 2, .mv (.t 5), [], none⟩])
    .ret)
   .skip)
  (.seq (.reg [⟨some 6, .mv (.t 0), [], none⟩,
      ⟨some 7, .call (.c (.fn (.func 186) [] [])) [.t 6], [], none⟩,
      ⟨some 2, .mv (.t 7), [], none⟩])
   .ret)))) }

/-- math/bits.ReverseBytes64 -/
def ir250 : IFn :=
 { nt := 22, res := [.t 2],
   body := (.seq (.reg [⟨some 2, .mv (.c (.int .u64 0)), [], none⟩])
 (.seq (.live [0]) (.seq (.reg [⟨some 3, .mv (.t 0), [], none⟩,
     ⟨some 4, .bin 0 .shr (.t 3) (.c (.int .u64 8)), [], none⟩,
     ⟨some 5, .bin 0 .and (.t 4) (.c (.int .u64 71777214294589695)), [], none⟩,
     ⟨some 6, .mv (.t 0), [], none⟩,
     ⟨some 7, .bin 0 .and (.t 6) (.c (.int .u64 71777214294589695)), [], none⟩,
     ⟨some 8, .bin 0 .shl (.t 7) (.c (.int .u64 8)), [], none⟩,
     ⟨some 9, .bin 0 .or (.t 5) (.t 8), [], none⟩,
     ⟨some 0, .mv (.t 9), [], none⟩])
  (.seq (.live [0]) (.seq (.reg [⟨some 10, .mv (.t 0), [], none⟩,
      ⟨some 11, .bin 0 .shr (.t 10) (.c (.int .u64 16)), [], none⟩,
      ⟨some 12, .bin 0 .and (.t 11) (.c (.int .u64 281470681808895)), [], none⟩,
      ⟨some 13, .mv (.t 0), [], none⟩,
      ⟨some 14, .bin 0 .and (.t 13) (.c (.int .u64 281470681808895)), [], none⟩,
      ⟨some 15, .bin 0 .shl (.t 14) (.c (.int .u64 16)), [], none⟩,
      ⟨some 16, .bin 0 .or (.t 12) (.t 15), [], none⟩,
      ⟨some 0, .mv (.t 16), [], none⟩])
   (.seq (.live [0]) (.seq (.reg [⟨some 17, .mv (.t 0), [], none⟩,
       ⟨some 18, .bin 0 .shr (.t 17) (.c (.int .u64 32)), [], none⟩,
       ⟨some 19, .mv (.t 0), [], none⟩,
       ⟨some 20, .bin 0 .shl (.t 19) (.c (.int .u64 32)), [], none⟩,
       ⟨some 21, .bin 0 .or (.t 18) (.t 20), [], none⟩,
       ⟨some 2, .mv (.t 21), [], none⟩])
    .ret))))))) }

/-- math/bits.Reverse64 -/
def ir247 : IFn :=
 { nt := 26, res := [.t 2],
   body := (.seq (.reg [⟨some 2, .mv (.c (.int .u64 0)), [], none⟩])
 (.seq (.live [0]) (.seq (.reg [⟨some 3, .mv (.t 0), [], none⟩,
     ⟨some 4, .bin 0 .shr (.t 3) (.c (.int .u64 1)), [], none⟩,
     ⟨some 5, .bin 0 .and (.t 4) (.c (.int .u64 6148914691236517205)), [], none⟩,
     ⟨some 6, .mv (.t 0), [], none⟩,
     ⟨some 7, .bin 0 .and (.t 6) (.c (.int .u64 6148914691236517205)), [], none⟩,
     ⟨some 8, .bin 0 .shl (.t 7) (.c (.int .u64 1)), [], none⟩,
     ⟨some 9, .bin 0 .or (.t 5) (.t 8), [], none⟩,
     ⟨some 0, .mv (.t 9), [], none⟩])
  (.seq (.live [0]) (.seq (.reg [⟨some 10, .mv (.t 0), [], none⟩,
      ⟨some 11, .bin 0 .shr (.t 10) (.c (.int .u64 2)), [], none⟩,
      ⟨some 12, .bin 0 .and (.t 11) (.c (.int .u64 3689348814741910323)), [], none⟩,
      ⟨some 13, .mv (.t 0), [], none⟩,
      ⟨some 14, .bin 0 .and (.t 13) (.c (.int .u64 3689348814741910323)), [], none⟩,
      ⟨some 15, .bin 0 .shl (.t 14) (.c (.int .u64 2)), [], none⟩,
      ⟨some 16, .bin 0 .or (.t 12) (.t 15), [], none⟩,
      ⟨some 0, .mv (.t 16), [], none⟩])
   (.seq (.live [0]) (.seq (.reg [⟨some 17, .mv (.t 0), [], none⟩,
       ⟨some 18, .bin 0 .shr (.t 17) (.c (.int .u64 4)), [], none⟩,
       ⟨some 19, .bin 0 .and (.t 18) (.c (.int .u64 1085102592571150095)), [], none⟩,
       ⟨some 20, .mv (.t 0), [], none⟩,
       ⟨some 21, .bin 0 .and (.t 20) (.c (.int .u64 1085102592571150095)), [], none⟩,
       ⟨some 22, .bin 0 .shl (.t 21) (.c (.int .u64 4)), [], none⟩,
       ⟨some 23, .bin 0 .or (.t 19) (.t 22), [], none⟩,
       ⟨some 0, .mv (.t 23), [], none⟩])
    (.seq (.live [0]) (.seq (.reg [⟨some 24, .mv (.t 0), [], none⟩,
        ⟨some 25, .call (.c (.fn (.func 250) [] [])) [.t 24], [], none⟩,
        ⟨some 2, .mv (.t 25), [], none⟩])
     .ret))))))))) }

/-- (*arras/ntt.Table).cyclic -/
def ir240 : IFn :=
 { nt := 135, res := [.t 6],
   body := (.seq (.reg [⟨some 6, .mv (.c (.lit (.slice none 0 0))), [], none⟩])
 (.seq (.live [0, 1, 2]) (.seq (.reg [⟨some 16, .mv (.t 0), [], none⟩,
     ⟨some 17, .nilc (.t 16), [], none⟩,
     ⟨some 18, .fa false 1 0 (.t 17), [], none⟩,
     ⟨some 19, .ld false 1 (.t 18), [], none⟩,
     ⟨some 20, .conv .u64 (.t 19), [], none⟩,
     ⟨some 21, .call (.c (.fn (.func 246) [] [])) [.t 20], [], none⟩,
     ⟨some 22, .bin 0 .sub (.t 21) (.c (.int .i64 1)), [], none⟩,
     ⟨some 7, .mv (.t 22), [], none⟩])
  (.seq (.live [0, 1, 2, 7]) (.seq (.seq (.reg [⟨some 23, .mv (.t 1), [], none⟩,
       ⟨some 24, .len (.t 23), [], none⟩,
       ⟨some 25, .mv (.c (.int .i64 0)), [], none⟩])
    (.seq (.live [0, 1, 2, 7, 24, 25]) (.blk 0 (.loop (.seq (.live [0, 1, 2, 7, 24, 25]) (.seq (.reg [⟨some 26, .bin 0 .lss (.t 25) (.t 24), [], none⟩])
       (.seq (.live [0, 1, 2, 7, 24, 25, 26]) (.seq (.cnd (.t 26) .skip
         (.exit 0))
        (.seq (.blk 1 (.seq (.reg [⟨some 27, .mv (.t 25), [], none⟩,
              ⟨some 8, .mv (.t 27), [], none⟩])
           (.seq (.live [0, 1, 2, 7, 8, 24, 25]) (.seq (.reg [⟨some 28, .mv (.t 8), [], none⟩,
               ⟨some 29, .conv .u64 (.t 28), [], none⟩,
               ⟨some 30, .call (.c (.fn (.func 247) [] [])) [.t 29], [], none⟩,
               ⟨some 31, .mv (.t 7), [], none⟩,
               ⟨some 32, .bin 0 .sub (.c (.int .i64 64)) (.t 31), [], none⟩,
               ⟨some 33, .conv .u64 (.t 32), [], none⟩,
               ⟨some 34, .bin 0 .shr (.t 30) (.t 33), [], none⟩,
               ⟨some 35, .conv .i64 (.t 34), [], none⟩,
               ⟨some 9, .mv (.t 35), [], none⟩])
            (.seq (.live [0, 1, 2, 7, 8, 9, 24, 25]) (.seq (.reg [⟨some 36, .mv (.t 8), [], none⟩,
                ⟨some 37, .mv (.t 9), [], none⟩,
                ⟨some 38, .bin 0 .lss (.t 36) (.t 37), [], none⟩])
             (.seq (.live [0, 1, 2, 7, 8, 9, 24, 25, 38]) (.cnd (.t 38) (.drw [⟨some 39, .mv (.t 1), [], none⟩,
                 ⟨some 40, .mv (.t 8), [], none⟩,
                 ⟨some 41, .mv (.t 1), [], none⟩,
                 ⟨some 42, .mv (.t 9), [], none⟩,
                 ⟨some 43, .mv (.t 1), [], none⟩,
                 ⟨some 44, .mv (.t 9), [], none⟩,
                 ⟨some 45, .ia 1 (.t 43) (.t 44), [4, 5], none⟩,
                 ⟨some 46, .ld false 1 (.t 45), [6], none⟩,
                 ⟨some 47, .mv (.t 1), [], none⟩,
                 ⟨some 48, .mv (.t 8), [], none⟩,
                 ⟨some 49, .ia 1 (.t 47) (.t 48), [8, 9], none⟩,
                 ⟨some 50, .ld false 1 (.t 49), [10], none⟩,
                 ⟨some 51, .ia 1 (.t 39) (.t 40), [0, 1, 4, 5, 6, 7, 11], none⟩,
                 ⟨none, .st 1 (.t 51) (.t 46), [12, 7, 0, 1, 4, 5, 6, 11], none⟩,
                 ⟨some 52, .ia 1 (.t 41) (.t 42), [2, 3, 0, 1, 4, 5, 6, 7, 8, 9, 10, 11, 12, 13], none⟩,
                 ⟨none, .st 1 (.t 52) (.t 50), [14, 11, 13, 0, 1, 2, 3, 4, 5, 6, 7, 8, 9, 10, 12], none⟩])
              .skip))))))))
         (.seq (.live [0, 1, 2, 7, 24, 25]) (.reg [⟨some 53, .bin 0 .add (.t 25) (.c (.int .i64 1)), [], none⟩,
            ⟨some 25, .mv (.t 53), [], none⟩])))))))))))
   (.seq (.live [0, 1, 2]) (.seq (.seq (.reg [⟨some 10, .mv (.c (.int .i64 1)), [], none⟩])
     (.seq (.live [0, 1, 2, 10]) (.blk 2 (.loop (.seq (.live [0, 1, 2, 10]) (.seq (.seq (.reg [⟨some 54, .mv (.t 10), [], none⟩,
            ⟨some 55, .mv (.t 0), [], none⟩,
            ⟨some 56, .nilc (.t 55), [], none⟩,
            ⟨some 57, .fa false 1 0 (.t 56), [], none⟩,
            ⟨some 58, .ld false 1 (.t 57), [], none⟩,
            ⟨some 59, .bin 0 .lss (.t 54) (.t 58), [], none⟩])
         (.seq (.live [0, 1, 2, 10, 59]) (.cnd (.t 59) .skip
          (.exit 2))))
        (.seq (.live [0, 1, 2, 10]) (.seq (.blk 3 (.seq (.reg [⟨some 62, .mv (.t 0), [], none⟩,
              ⟨some 63, .nilc (.t 62), [], none⟩,
              ⟨some 64, .fa false 1 0 (.t 63), [], none⟩,
              ⟨some 65, .ld false 1 (.t 64), [], none⟩,
              ⟨some 66, .mv (.t 10), [], none⟩,
              ⟨some 67, .bin 0 .quo (.t 65) (.t 66), [], none⟩,
              ⟨some 11, .mv (.t 67), [], none⟩])
           (.seq (.live [0, 1, 2, 10, 11]) (.seq (.reg [⟨some 12, .mv (.c (.int .i64 0)), [], none⟩])
            (.seq (.live [0, 1, 2, 10, 11, 12]) (.blk 4 (.loop (.seq (.live [0, 1, 2, 10, 11, 12]) (.seq (.seq (.reg [⟨some 68, .mv (.t 12), [], none⟩,
                   ⟨some 69, .mv (.t 0), [], none⟩,
                   ⟨some 70, .nilc (.t 69), [], none⟩,
                   ⟨some 71, .fa false 1 0 (.t 70), [], none⟩,
                   ⟨some 72, .ld false 1 (.t 71), [], none⟩,
                   ⟨some 73, .bin 0 .lss (.t 68) (.t 72), [], none⟩])
                (.seq (.live [0, 1, 2, 10, 11, 12, 73]) (.cnd (.t 73) .skip
                 (.exit 4))))
               (.seq (.live [0, 1, 2, 10, 11, 12]) (.seq (.blk 5 (.seq (.reg [⟨some 78, .mv (.t 10), [], none⟩,
                     ⟨some 79, .mv (.c (.int .i64 0)), [], none⟩])
                  (.seq (.live [0, 1, 2, 10, 11, 12, 78, 79]) (.blk 6 (.loop (.seq (.live [0, 1, 2, 10, 11, 12, 78, 79]) (.seq (.reg [⟨some 80, .bin 0 .lss (.t 79) (.t 78), [], none⟩])
                     (.seq (.live [0, 1, 2, 10, 11, 12, 78, 79, 80]) (.seq (.cnd (.t 80) .skip
                       (.exit 6))
                      (.seq (.blk 7 (.seq (.reg [⟨some 81, .mv (.t 79), [], none⟩,
                            ⟨some 13, .mv (.t 81), [], none⟩])
                         (.seq (.live [0, 1, 2, 10, 11, 12, 13, 78, 79]) (.seq (.drw [⟨some 82, .mv (.t 1), [], none⟩,
                             ⟨some 83, .mv (.t 12), [], none⟩,
                             ⟨some 84, .mv (.t 13), [], none⟩,
                             ⟨some 85, .bin 0 .add (.t 83) (.t 84), [1, 2], none⟩,
                             ⟨some 86, .ia 1 (.t 82) (.t 85), [0, 3], none⟩,
                             ⟨some 87, .ld false 1 (.t 86), [4], none⟩,
                             ⟨some 88, .mv (.t 1), [], none⟩,
                             ⟨some 89, .mv (.t 12), [], none⟩,
                             ⟨some 90, .mv (.t 13), [], none⟩,
                             ⟨some 91, .bin 0 .add (.t 89) (.t 90), [7, 8], none⟩,
                             ⟨some 92, .mv (.t 10), [], none⟩,
                             ⟨some 93, .bin 0 .add (.t 91) (.t 92), [9, 10], none⟩,
                             ⟨some 94, .ia 1 (.t 88) (.t 93), [6, 11], none⟩,
                             ⟨some 95, .ld false 1 (.t 94), [12], none⟩,
                             ⟨some 96, .mv (.t 2), [], none⟩,
                             ⟨some 97, .mv (.t 13), [], none⟩,
                             ⟨some 98, .mv (.t 11), [], none⟩,
                             ⟨some 99, .bin 0 .mul (.t 97) (.t 98), [15, 16], none⟩,
                             ⟨some 100, .ia 1 (.t 96) (.t 99), [14, 17], none⟩,
                             ⟨some 101, .ld false 1 (.t 100), [18], none⟩,
                             ⟨some 102, .mv (.t 0), [], none⟩,
                             ⟨some 103, .nilc (.t 102), [20], none⟩,
                             ⟨some 104, .fa false 1 1 (.t 103), [21], none⟩,
                             ⟨some 105, .ld false 1 (.t 104), [22], none⟩,
                             ⟨some 106, .call (.c (.fn (.func 193) [] [])) [.t 95, .t 101, .t 105], [13, 19, 23], none⟩,
                             ⟨some 14, .mv (.t 87), [5, 24, 0, 1, 2, 3, 4], none⟩,
                             ⟨some 15, .mv (.t 106), [24, 25, 0, 1, 2, 3, 4, 5, 6, 7, 8, 9, 10, 11, 12, 13, 14, 15, 16, 17, 18, 19, 20, 21, 22, 23], none⟩])
                          (.seq (.live [0, 1, 2, 10, 11, 12, 13, 14, 15, 78, 79]) (.drw [⟨some 107, .mv (.t 1), [], none⟩,
                             ⟨some 108, .mv (.t 12), [], none⟩,
                             ⟨some 109, .mv (.t 13), [], none⟩,
                             ⟨some 110, .bin 0 .add (.t 108) (.t 109), [1, 2], none⟩,
                             ⟨some 111, .mv (.t 1), [], none⟩,
                             ⟨some 112, .mv (.t 12), [], none⟩,
                             ⟨some 113, .mv (.t 13), [], none⟩,
                             ⟨some 114, .bin 0 .add (.t 112) (.t 113), [5, 6], none⟩,
                             ⟨some 115, .mv (.t 10), [], none⟩,
                             ⟨some 116, .bin 0 .add (.t 114) (.t 115), [7, 8], none⟩,
                             ⟨some 117, .mv (.t 14), [], none⟩,
                             ⟨some 118, .mv (.t 15), [], none⟩,
                             ⟨some 119, .mv (.t 0), [], none⟩,
                             ⟨some 120, .nilc (.t 119), [12], none⟩,
                             ⟨some 121, .fa false 1 1 (.t 120), [13], none⟩,
                             ⟨some 122, .ld false 1 (.t 121), [14], none⟩,
                             ⟨some 123, .call (.c (.fn (.func 131) [] [])) [.t 117, .t 118, .t 122], [10, 11, 15], none⟩,
                             ⟨some 124, .mv (.t 14), [], none⟩,
                             ⟨some 125, .mv (.t 15), [], none⟩,
                             ⟨some 126, .mv (.t 0), [], none⟩,
                             ⟨some 127, .nilc (.t 126), [19], none⟩,
                             ⟨some 128, .fa false 1 1 (.t 127), [20], none⟩,
                             ⟨some 129, .ld false 1 (.t 128), [21], none⟩,
                             ⟨some 130, .call (.c (.fn (.func 177) [] [])) [.t 124, .t 125, .t 129], [17, 18, 22, 16], none⟩,
                             ⟨some 131, .ia 1 (.t 107) (.t 110), [0, 3, 1, 2, 10, 11, 12, 13, 14, 15, 16, 22, 23], none⟩,
                             ⟨none, .st 1 (.t 131) (.t 123), [24, 16, 23, 0, 1, 2, 3, 10, 11, 12, 13, 14, 15, 22], none⟩,
                             ⟨some 132, .ia 1 (.t 111) (.t 116), [4, 9, 0, 1, 2, 3, 5, 6, 7, 8, 10, 11, 12, 13, 14, 15, 16, 17, 18, 19, 20, 21, 22, 23, 24, 25], none⟩,
                             ⟨none, .st 1 (.t 132) (.t 130), [26, 23, 25, 0, 1, 2, 3, 4, 5, 6, 7, 8, 9, 10, 11, 12, 13, 14, 15, 16, 17, 18, 19, 20, 21, 22, 24], none⟩]))))))
                       (.seq (.live [0, 1, 2, 10, 11, 12, 78, 79]) (.reg [⟨some 133, .bin 0 .add (.t 79) (.c (.int .i64 1)), [], none⟩,
                          ⟨some 79, .mv (.t 133), [], none⟩]))))))))))))
                (.seq (.live [0, 1, 2, 10, 11, 12]) (.reg [⟨some 74, .mv (.t 12), [], none⟩,
                   ⟨some 75, .mv (.t 10), [], none⟩,
                   ⟨some 76, .bin 0 .mul (.c (.int .i64 2)) (.t 75), [], none⟩,
                   ⟨some 77, .bin 0 .add (.t 74) (.t 76), [], none⟩,
                   ⟨some 12, .mv (.t 77), [], none⟩])))))))))))))
         (.seq (.live [0, 1, 2, 10]) (.reg [⟨some 60, .mv (.t 10), [], none⟩,
            ⟨some 61, .bin 0 .mul (.t 60) (.c (.int .i64 2)), [], none⟩,
            ⟨some 10, .mv (.t 61), [], none⟩]))))))))))
    (.seq (.live [1]) (.seq (.reg [⟨some 134, .mv (.t 1), [], none⟩,
        ⟨some 6, .mv (.t 134), [], none⟩])
     .ret))))))))) }

/-- (*arras/ntt.Table).twist -/
def ir241 : IFn :=
 { nt := 37, res := [.t 6],
   body := (.seq (.reg [⟨some 6, .mv (.c (.lit (.slice none 0 0))), [], none⟩])
 (.seq (.live [0, 1, 2]) (.seq (.reg [⟨some 10, .mv (.t 0), [], none⟩,
     ⟨some 11, .nilc (.t 10), [], none⟩,
     ⟨some 12, .fa false 1 0 (.t 11), [], none⟩,
     ⟨some 13, .ld false 1 (.t 12), [], none⟩,
     ⟨some 14, .mksl true 1 (.int .u64 0) 8 (.t 13) (.t 13), [], none⟩,
     ⟨some 7, .mv (.t 14), [], none⟩])
  (.seq (.live [0, 1, 2, 7]) (.seq (.seq (.reg [⟨some 15, .mv (.t 1), [], none⟩,
       ⟨some 16, .len (.t 15), [], none⟩,
       ⟨some 17, .mv (.c (.int .i64 0)), [], none⟩])
    (.seq (.live [0, 2, 7, 15, 16, 17]) (.blk 0 (.loop (.seq (.live [0, 2, 7, 15, 16, 17]) (.seq (.reg [⟨some 18, .bin 0 .lss (.t 17) (.t 16), [], none⟩])
       (.seq (.live [0, 2, 7, 15, 16, 17, 18]) (.seq (.cnd (.t 18) .skip
         (.exit 0))
        (.seq (.blk 1 (.seq (.reg [⟨some 19, .mv (.t 17), [], none⟩,
              ⟨some 20, .ia 1 (.t 15) (.t 17), [], none⟩,
              ⟨some 21, .ld false 1 (.t 20), [], none⟩,
              ⟨some 8, .mv (.t 19), [], none⟩,
              ⟨some 9, .mv (.t 21), [], none⟩])
           (.seq (.live [0, 2, 7, 8, 9, 15, 16, 17]) (.drw [⟨some 22, .mv (.t 7), [], none⟩,
              ⟨some 23, .mv (.t 8), [], none⟩,
              ⟨some 24, .mv (.t 9), [], none⟩,
              ⟨some 25, .mv (.t 2), [], none⟩,
              ⟨some 26, .mv (.t 8), [], none⟩,
              ⟨some 27, .ia 1 (.t 25) (.t 26), [3, 4], none⟩,
              ⟨some 28, .ld false 1 (.t 27), [5], none⟩,
              ⟨some 29, .mv (.t 0), [], none⟩,
              ⟨some 30, .nilc (.t 29), [7], none⟩,
              ⟨some 31, .fa false 1 1 (.t 30), [8], none⟩,
              ⟨some 32, .ld false 1 (.t 31), [9], none⟩,
              ⟨some 33, .call (.c (.fn (.func 193) [] [])) [.t 24, .t 28, .t 32], [2, 6, 10], none⟩,
              ⟨some 34, .ia 1 (.t 22) (.t 23), [0, 1, 2, 3, 4, 5, 6, 7, 8, 9, 10, 11], none⟩,
              ⟨none, .st 1 (.t 34) (.t 33), [12, 11, 0, 1, 2, 3, 4, 5, 6, 7, 8, 9, 10], none⟩]))))
         (.seq (.live [0, 2, 7, 15, 16, 17]) (.reg [⟨some 35, .bin 0 .add (.t 17) (.c (.int .i64 1)), [], none⟩,
            ⟨some 17, .mv (.t 35), [], none⟩])))))))))))
   (.seq (.live [7]) (.seq (.reg [⟨some 36, .mv (.t 7), [], none⟩,
       ⟨some 6, .mv (.t 36), [], none⟩])
    .ret))))))) }

/-- (*arras/ntt.Table).Values -/
def ir218 : IFn :=
 { nt := 27, res := [.t 4, .t 5],
   body := (.seq (.reg [⟨some 4, .mv (.c (.lit (.slice none 0 0))), [], none⟩,
    ⟨some 5, .mv (.c (.int .i64 0)), [], none⟩])
 (.seq (.live [0, 1]) (.seq (.blk 0 (.seq (.reg [⟨some 7, .mv (.t 0), [], none⟩,
       ⟨some 8, .bin 2 .eql (.t 7) (.c (.lit (.pointer none))), [], none⟩,
       ⟨some 6, .mv (.t 8), [], none⟩])
    (.seq (.live [0, 1, 6]) (.cnd (.t 6) (.seq (.reg [⟨some 4, .mv (.c (.lit (.slice none 0 0))), [], none⟩,
         ⟨some 5, .mv (.c (.int .i64 1)), [], none⟩])
      .ret)
     (.seq (.reg [⟨some 10, .mv (.t 0), [], none⟩,
         ⟨some 11, .mv (.t 1), [], none⟩,
         ⟨some 12, .call (.c (.fn (.func 239) [] [])) [.t 10, .t 11], [], none⟩,
         ⟨some 13, .un .not (.t 12), [], none⟩,
         ⟨some 9, .mv (.t 13), [], none⟩])
      (.seq (.live [0, 1, 9]) (.cnd (.t 9) (.seq (.reg [⟨some 4, .mv (.c (.lit (.slice none 0 0))), [], none⟩,
           ⟨some 5, .mv (.c (.int .i64 3)), [], none⟩])
        .ret)
       .skip)))))))
  (.seq (.live [0, 1]) (.seq (.drw [⟨some 14, .mv (.t 0), [], none⟩,
      ⟨some 15, .mv (.t 0), [], none⟩,
      ⟨some 16, .mv (.t 1), [], none⟩,
      ⟨some 17, .mv (.t 0), [], none⟩,
      ⟨some 18, .nilc (.t 17), [3], none⟩,
      ⟨some 19, .fa false 1 3 (.t 18), [4], none⟩,
      ⟨some 20, .ld false 1 (.t 19), [5], none⟩,
      ⟨some 21, .call (.c (.fn (.func 241) [] [])) [.t 15, .t 16, .t 20], [1, 2, 6], none⟩,
      ⟨some 22, .mv (.t 0), [], none⟩,
      ⟨some 23, .nilc (.t 22), [8], none⟩,
      ⟨some 24, .fa false 1 3 (.t 23), [9], none⟩,
      ⟨some 25, .ld false 1 (.t 24), [10], none⟩,
      ⟨some 26, .call (.c (.fn (.func 240) [] [])) [.t 14, .t 21, .t 25], [0, 7, 11], none⟩,
      ⟨some 4, .mv (.t 26), [12, 0, 1, 2, 3, 4, 5, 6, 7, 8, 9, 10, 11], none⟩,
      ⟨some 5, .mv (.c (.int .i64 0)), [13, 0, 1, 2, 3, 4, 5, 6, 7, 8, 9, 10, 11, 12], none⟩])
   .ret))))) }

/-- (*arras/ntt.Table).Back -/
def ir219 : IFn :=
 { nt := 54, res := [.t 4, .t 5],
   body := (.seq (.reg [⟨some 4, .mv (.c (.lit (.slice none 0 0))), [], none⟩,
    ⟨some 5, .mv (.c (.int .i64 0)), [], none⟩])
 (.seq (.live [0, 1]) (.seq (.blk 0 (.seq (.reg [⟨some 9, .mv (.t 0), [], none⟩,
       ⟨some 10, .bin 2 .eql (.t 9) (.c (.lit (.pointer none))), [], none⟩,
       ⟨some 8, .mv (.t 10), [], none⟩])
    (.seq (.live [0, 1, 8]) (.cnd (.t 8) (.seq (.reg [⟨some 4, .mv (.c (.lit (.slice none 0 0))), [], none⟩,
         ⟨some 5, .mv (.c (.int .i64 1)), [], none⟩])
      .ret)
     (.seq (.reg [⟨some 12, .mv (.t 0), [], none⟩,
         ⟨some 13, .mv (.t 1), [], none⟩,
         ⟨some 14, .call (.c (.fn (.func 239) [] [])) [.t 12, .t 13], [], none⟩,
         ⟨some 15, .un .not (.t 14), [], none⟩,
         ⟨some 11, .mv (.t 15), [], none⟩])
      (.seq (.live [0, 1, 11]) (.cnd (.t 11) (.seq (.reg [⟨some 4, .mv (.c (.lit (.slice none 0 0))), [], none⟩,
           ⟨some 5, .mv (.c (.int .i64 3)), [], none⟩])
        .ret)
       .skip)))))))
  (.seq (.live [0, 1]) (.seq (.drw [⟨some 16, .mv (.t 0), [], none⟩,
      ⟨some 17, .mv (.t 0), [], none⟩,
      ⟨some 18, .bsl true 1 (.int .u64 0) 0 [], [], none⟩,
      ⟨some 19, .mv (.t 1), [], none⟩,
      ⟨some 20, .app true 1 8 (.t 18) (.t 19), [2, 3], none⟩,
      ⟨some 21, .mv (.t 0), [], none⟩,
      ⟨some 22, .nilc (.t 21), [5], none⟩,
      ⟨some 23, .fa false 1 4 (.t 22), [6], none⟩,
      ⟨some 24, .ld false 1 (.t 23), [7], none⟩,
      ⟨some 25, .call (.c (.fn (.func 240) [] [])) [.t 17, .t 20, .t 24], [1, 4, 8], none⟩,
      ⟨some 26, .mv (.t 0), [], none⟩,
      ⟨some 27, .nilc (.t 26), [10], none⟩,
      ⟨some 28, .fa false 1 4 (.t 27), [11], none⟩,
      ⟨some 29, .ld false 1 (.t 28), [12], none⟩,
      ⟨some 30, .call (.c (.fn (.func 241) [] [])) [.t 16, .t 25, .t 29], [0, 9, 13], none⟩,
      ⟨some 6, .mv (.t 30), [14, 0, 1, 2, 3, 4, 5, 6, 7, 8, 9, 10, 11, 12, 13], none⟩])
   (.seq (.live [0, 6]) (.seq (.seq (.reg [⟨some 31, .mv (.t 6), [], none⟩,
        ⟨some 32, .len (.t 31), [], none⟩,
        ⟨some 33, .mv (.c (.int .i64 0)), [], none⟩])
     (.seq (.live [0, 6, 32, 33]) (.blk 1 (.loop (.seq (.live [0, 6, 32, 33]) (.seq (.reg [⟨some 34, .bin 0 .lss (.t 33) (.t 32), [], none⟩])
        (.seq (.live [0, 6, 32, 33, 34]) (.seq (.cnd (.t 34) .skip
          (.exit 1))
         (.seq (.blk 2 (.seq (.reg [⟨some 35, .mv (.t 33), [], none⟩,
               ⟨some 7, .mv (.t 35), [], none⟩])
            (.seq (.live [0, 6, 7, 32, 33]) (.drw [⟨some 36, .mv (.t 6), [], none⟩,
               ⟨some 37, .mv (.t 7), [], none⟩,
               ⟨some 38, .mv (.t 6), [], none⟩,
               ⟨some 39, .mv (.t 7), [], none⟩,
               ⟨some 40, .ia 1 (.t 38) (.t 39), [2, 3], none⟩,
               ⟨some 41, .ld false 1 (.t 40), [4], none⟩,
               ⟨some 42, .mv (.t 0), [], none⟩,
               ⟨some 43, .nilc (.t 42), [6], none⟩,
               ⟨some 44, .fa false 1 2 (.t 43), [7], none⟩,
               ⟨some 45, .ld false 1 (.t 44), [8], none⟩,
               ⟨some 46, .mv (.t 0), [], none⟩,
               ⟨some 47, .nilc (.t 46), [10], none⟩,
               ⟨some 48, .fa false 1 1 (.t 47), [11], none⟩,
               ⟨some 49, .ld false 1 (.t 48), [12], none⟩,
               ⟨some 50, .call (.c (.fn (.func 193) [] [])) [.t 41, .t 45, .t 49], [5, 9, 13], none⟩,
               ⟨some 51, .ia 1 (.t 36) (.t 37), [0, 1, 2, 3, 4, 5, 6, 7, 8, 9, 10, 11, 12, 13, 14], none⟩,
               ⟨none, .st 1 (.t 51) (.t 50), [15, 14, 0, 1, 2, 3, 4, 5, 6, 7, 8, 9, 10, 11, 12, 13], none⟩]))))
          (.seq (.live [0, 6, 32, 33]) (.reg [⟨some 52, .bin 0 .add (.t 33) (.c (.int .i64 1)), [], none⟩,
             ⟨some 33, .mv (.t 52), [], none⟩])))))))))))
    (.seq (.live [6]) (.seq (.reg [⟨some 53, .mv (.t 6), [], none⟩,
        ⟨some 4, .mv (.t 53), [], none⟩,
        ⟨some 5, .mv (.c (.int .i64 0)), [], none⟩])
     .ret))))))))) }

/-- (*arras/ntt.Table).Mul -/
def ir171 : IFn :=
 { nt := 60, res := [.t 6, .t 7],
   body := (.seq (.reg [⟨some 6, .mv (.c (.lit (.slice none 0 0))), [], none⟩,
    ⟨some 7, .mv (.c (.int .i64 0)), [], none⟩])
 (.seq (.live [0, 1, 2]) (.seq (.reg [⟨some 13, .mv (.t 0), [], none⟩,
     ⟨some 14, .mkfn (.func 218) [.t 13] [], [], none⟩,
     ⟨some 8, .mv (.t 14), [], none⟩])
  (.seq (.live [0, 1, 2, 8]) (.seq (.reg [⟨some 16, .mv (.t 8), [], none⟩,
      ⟨some 17, .mv (.t 1), [], none⟩,
      ⟨some 18, .call (.t 16) [.t 17], [], none⟩,
      ⟨some 15, .mv (.t 18), [], none⟩,
      ⟨some 19, .ext (.t 15) 0, [], none⟩,
      ⟨some 20, .ext (.t 15) 1, [], none⟩,
      ⟨some 9, .mv (.t 19), [], none⟩,
      ⟨some 10, .mv (.t 20), [], none⟩])
   (.seq (.live [0, 2, 8, 9, 10]) (.seq (.seq (.reg [⟨some 21, .mv (.t 10), [], none⟩,
        ⟨some 22, .bin 0 .neq (.t 21) (.c (.int .i64 0)), [], none⟩])
     (.seq (.live [0, 2, 8, 9, 10, 22]) (.cnd (.t 22) (.seq (.reg [⟨some 23, .mv (.t 10), [], none⟩,
          ⟨some 6, .mv (.c (.lit (.slice none 0 0))), [], none⟩,
          ⟨some 7, .mv (.t 23), [], none⟩])
       .ret)
      .skip)))
    (.seq (.live [0, 2, 8, 9]) (.seq (.reg [⟨some 25, .mv (.t 8), [], none⟩,
        ⟨some 26, .mv (.t 2), [], none⟩,
        ⟨some 27, .call (.t 25) [.t 26], [], none⟩,
        ⟨some 24, .mv (.t 27), [], none⟩,
        ⟨some 28, .ext (.t 24) 0, [], none⟩,
        ⟨some 29, .ext (.t 24) 1, [], none⟩,
        ⟨some 11, .mv (.t 28), [], none⟩,
        ⟨some 10, .mv (.t 29), [], none⟩])
     (.seq (.live [0, 9, 10, 11]) (.seq (.seq (.reg [⟨some 30, .mv (.t 10), [], none⟩,
          ⟨some 31, .bin 0 .neq (.t 30) (.c (.int .i64 0)), [], none⟩])
       (.seq (.live [0, 9, 10, 11, 31]) (.cnd (.t 31) (.seq (.reg [⟨some 32, .mv (.t 10), [], none⟩,
            ⟨some 6, .mv (.c (.lit (.slice none 0 0))), [], none⟩,
            ⟨some 7, .mv (.t 32), [], none⟩])
         .ret)
        .skip)))
      (.seq (.live [0, 9, 11]) (.seq (.seq (.reg [⟨some 33, .mv (.t 9), [], none⟩,
           ⟨some 34, .len (.t 33), [], none⟩,
           ⟨some 35, .mv (.c (.int .i64 0)), [], none⟩])
        (.seq (.live [0, 9, 11, 34, 35]) (.blk 0 (.loop (.seq (.live [0, 9, 11, 34, 35]) (.seq (.reg [⟨some 36, .bin 0 .lss (.t 35) (.t 34), [], none⟩])
           (.seq (.live [0, 9, 11, 34, 35, 36]) (.seq (.cnd (.t 36) .skip
             (.exit 0))
            (.seq (.blk 1 (.seq (.reg [⟨some 37, .mv (.t 35), [], none⟩,
                  ⟨some 12, .mv (.t 37), [], none⟩])
               (.seq (.live [0, 9, 11, 12, 34, 35]) (.drw [⟨some 38, .mv (.t 9), [], none⟩,
                  ⟨some 39, .mv (.t 12), [], none⟩,
                  ⟨some 40, .mv (.t 9), [], none⟩,
                  ⟨some 41, .mv (.t 12), [], none⟩,
                  ⟨some 42, .ia 1 (.t 40) (.t 41), [2, 3], none⟩,
                  ⟨some 43, .ld false 1 (.t 42), [4], none⟩,
                  ⟨some 44, .mv (.t 11), [], none⟩,
                  ⟨some 45, .mv (.t 12), [], none⟩,
                  ⟨some 46, .ia 1 (.t 44) (.t 45), [6, 7], none⟩,
                  ⟨some 47, .ld false 1 (.t 46), [8], none⟩,
                  ⟨some 48, .mv (.t 0), [], none⟩,
                  ⟨some 49, .nilc (.t 48), [10], none⟩,
                  ⟨some 50, .fa false 1 1 (.t 49), [11], none⟩,
                  ⟨some 51, .ld false 1 (.t 50), [12], none⟩,
                  ⟨some 52, .call (.c (.fn (.func 193) [] [])) [.t 43, .t 47, .t 51], [5, 9, 13], none⟩,
                  ⟨some 53, .ia 1 (.t 38) (.t 39), [0, 1, 2, 3, 4, 5, 6, 7, 8, 9, 10, 11, 12, 13, 14], none⟩,
                  ⟨none, .st 1 (.t 53) (.t 52), [15, 14, 0, 1, 2, 3, 4, 5, 6, 7, 8, 9, 10, 11, 12, 13], none⟩]))))
             (.seq (.live [0, 9, 11, 34, 35]) (.reg [⟨some 54, .bin 0 .add (.t 35) (.c (.int .i64 1)), [], none⟩,
                ⟨some 35, .mv (.t 54), [], none⟩])))))))))))
       (.seq (.live [0, 9]) (.seq (.reg [⟨some 55, .mv (.t 0), [], none⟩,
           ⟨some 56, .mv (.t 9), [], none⟩,
           ⟨some 57, .call (.c (.fn (.func 219) [] [])) [.t 55, .t 56], [], none⟩,
           ⟨some 58, .ext (.t 57) 0, [], none⟩,
           ⟨some 59, .ext (.t 57) 1, [], none⟩,
           ⟨some 6, .mv (.t 58), [], none⟩,
           ⟨some 7, .mv (.t 59), [], none⟩])
        .ret))))))))))))))) }

/-- (*arras/ring.Ring).Mul -/
def ir97 : IFn :=
 { nt := 62, res := [.cell 6 true 1, .t 7],
   body := (.seq (.reg [⟨some 4, .box 1 (.t 1), [], none⟩,
    ⟨some 5, .box 1 (.t 2), [], none⟩,
    ⟨some 6, .new (.agg [.lit (.slice none 0 0)]), [], none⟩,
    ⟨some 7, .mv (.c (.int .i64 0)), [], none⟩])
 (.seq (.live [0, 4, 5, 6]) (.seq (.seq (.reg [⟨some 15, .mv (.t 0), [], none⟩,
      ⟨some 16, .ld true 1 (.t 4), [], none⟩,
      ⟨some 17, .ld true 1 (.t 5), [], none⟩,
      ⟨some 18, .call (.c (.fn (.func 170) [] [])) [.t 15, .t 16, .t 17], [], none⟩,
      ⟨some 8, .mv (.t 18), [], none⟩])
   (.seq (.live [0, 4, 5, 6, 8]) (.seq (.reg [⟨some 19, .mv (.t 8), [], none⟩,
       ⟨some 20, .bin 0 .neq (.t 19) (.c (.int .i64 0)), [], none⟩])
    (.seq (.live [0, 4, 5, 6, 8, 20]) (.cnd (.t 20) (.seq (.reg [⟨some 21, .build [.lit (.slice none 0 0)] [], [], none⟩,
         ⟨some 22, .mv (.t 8), [], none⟩,
         ⟨none, .st 1 (.t 6) (.t 21), [], none⟩,
         ⟨some 7, .mv (.t 22), [], none⟩])
      .ret)
     .skip)))))
  (.seq (.live [0, 4, 5, 6]) (.seq (.reg [⟨some 23, .build [.lit (.slice none 0 0)] [], [], none⟩,
      ⟨some 9, .new (.agg [.lit (.slice none 0 0)]), [], none⟩,
      ⟨none, .st 1 (.t 9) (.t 23), [], none⟩])
   (.seq (.live [0, 4, 5, 6, 9]) (.seq (.reg [⟨some 10, .mv (.c (.fn (.func 171) [] [])), [], none⟩])
    (.seq (.live [0, 4, 5, 6, 9, 10]) (.seq (.seq (.drw [⟨some 24, .mv (.t 0), [], none⟩,
         ⟨some 25, .nilc (.t 24), [0], none⟩,
         ⟨some 26, .fa false 1 2 (.t 25), [1], none⟩,
         ⟨some 27, .ld false 1 (.t 26), [2], none⟩,
         ⟨some 28, .fa false 1 0 (.t 4), [], none⟩,
         ⟨some 29, .ld false 1 (.t 28), [4], none⟩,
         ⟨some 30, .len (.t 29), [5], none⟩,
         ⟨some 31, .slc 1 (.t 27) none (some (.t 30)) none, [3, 6], none⟩,
         ⟨some 32, .len (.t 31), [7], none⟩,
         ⟨some 33, .mv (.c (.int .i64 0)), [], none⟩])
      (.seq (.live [4, 5, 6, 9, 10, 31, 32, 33]) (.blk 0 (.loop (.seq (.live [4, 5, 6, 9, 10, 31, 32, 33]) (.seq (.reg [⟨some 34, .bin 0 .lss (.t 33) (.t 32), [], none⟩])
         (.seq (.live [4, 5, 6, 9, 10, 31, 32, 33, 34]) (.seq (.cnd (.t 34) .skip
           (.exit 0))
          (.seq (.blk 1 (.seq (.reg [⟨some 35, .mv (.t 33), [], none⟩,
                ⟨some 36, .ia 1 (.t 31) (.t 33), [], none⟩,
                ⟨some 37, .ld false 1 (.t 36), [], none⟩,
                ⟨some 11, .mv (.t 35), [], none⟩,
                ⟨some 12, .mv (.t 37), [], none⟩])
             (.seq (.live [4, 5, 6, 9, 10, 11, 12, 31, 32, 33]) (.seq (.drw [⟨some 39, .mv (.t 10), [], none⟩,
                 ⟨some 40, .mv (.t 12), [], none⟩,
                 ⟨some 41, .fa false 1 0 (.t 4), [], none⟩,
                 ⟨some 42, .ld false 1 (.t 41), [2], none⟩,
                 ⟨some 43, .mv (.t 11), [], none⟩,
                 ⟨some 44, .ia 1 (.t 42) (.t 43), [3, 4], none⟩,
                 ⟨some 45, .ld false 1 (.t 44), [5], none⟩,
                 ⟨some 46, .fa false 1 0 (.t 5), [], none⟩,
                 ⟨some 47, .ld false 1 (.t 46), [7], none⟩,
                 ⟨some 48, .mv (.t 11), [], none⟩,
                 ⟨some 49, .ia 1 (.t 47) (.t 48), [8, 9], none⟩,
                 ⟨some 50, .ld false 1 (.t 49), [10], none⟩,
                 ⟨some 51, .call (.t 39) [.t 40, .t 45, .t 50], [0, 1, 6, 11], none⟩,
                 ⟨some 38, .mv (.t 51), [12], none⟩,
                 ⟨some 52, .ext (.t 38) 0, [13], none⟩,
                 ⟨some 53, .ext (.t 38) 1, [13], none⟩,
                 ⟨some 13, .mv (.t 52), [14, 12, 0, 1, 2, 3, 4, 5, 6, 7, 8, 9, 10, 11, 13], none⟩,
                 ⟨some 14, .mv (.t 53), [15, 16, 0, 1, 2, 3, 4, 5, 6, 7, 8, 9, 10, 11, 12, 13, 14], none⟩])
              (.seq (.live [4, 5, 6, 9, 10, 13, 31, 32, 33]) (.reg [⟨some 54, .fa false 1 0 (.t 9), [], none⟩,
                 ⟨some 55, .ld false 1 (.t 54), [], none⟩,
                 ⟨some 56, .mv (.t 13), [], none⟩,
                 ⟨some 57, .bsl false 1 (.lit (.slice none 0 0)) 1 [(0, .t 56)], [], none⟩,
                 ⟨some 58, .app false 1 24 (.t 55) (.t 57), [], none⟩,
                 ⟨some 59, .fa false 1 0 (.t 9), [], none⟩,
                 ⟨none, .st 1 (.t 59) (.t 58), [], none⟩]))))))
           (.seq (.live [4, 5, 6, 9, 10, 31, 32, 33]) (.reg [⟨some 60, .bin 0 .add (.t 33) (.c (.int .i64 1)), [], none⟩,
              ⟨some 33, .mv (.t 60), [], none⟩])))))))))))
     (.seq (.live [6, 9]) (.seq (.reg [⟨some 61, .ld true 1 (.t 9), [], none⟩,
         ⟨none, .st 1 (.t 6) (.t 61), [], none⟩,
         ⟨some 7, .mv (.c (.int .i64 0)), [], none⟩])
      .ret))))))))))) }

/-- arras/crt.right -/
def ir139 : IFn :=
 { nt := 39, res := [.t 2],
   body := (.seq (.reg [⟨some 2, .mv (.c (.bool false)), [], none⟩])
 (.seq (.live [0, 15, 16, 19, 20, 21, 24, 25, 26, 27, 28, 35, 36, 37]) (.seq (.seq (.reg [⟨some 5, .mv (.t 0), [], none⟩,
      ⟨some 6, .len (.t 5), [], none⟩,
      ⟨some 7, .mv (.c (.int .i64 0)), [], none⟩])
   (.seq (.live [0, 5, 6, 7, 15, 16, 19, 20, 21, 24, 25, 26, 27, 28, 35, 36, 37]) (.blk 0 (.loop (.seq (.live [0, 5, 6, 7, 15, 16, 19, 20, 21, 24, 25, 26, 27, 28, 35, 36, 37]) (.seq (.reg [⟨some 8, .bin 0 .lss (.t 7) (.t 6), [], none⟩])
      (.seq (.live [0, 5, 6, 7, 8, 15, 16, 19, 20, 21, 24, 25, 26, 27, 28, 35, 36, 37]) (.seq (.cnd (.t 8) .skip
        (.exit 0))
       (.seq (.blk 1 (.seq (.reg [⟨some 9, .mv (.t 7), [], none⟩,
             ⟨some 10, .ia 1 (.t 5) (.t 7), [], none⟩,
             ⟨some 11, .ld false 1 (.t 10), [], none⟩,
             ⟨some 3, .mv (.t 9), [], none⟩,
             ⟨some 4, .mv (.t 11), [], none⟩])
          (.seq (.live [0, 3, 4, 5, 6, 7, 15, 16, 19, 20, 21, 24, 25, 26, 27, 28, 35, 36, 37]) (.seq (.reg [⟨some 12, .mv (.t 4), [], none⟩,
              ⟨some 13, .bin 0 .lss (.t 12) (.c (.int .u64 3)), [], none⟩,
              ⟨some 14, .mv (.t 13), [], none⟩,
              ⟨some 15, .mv (.t 4), [], some (14, false)⟩,
              ⟨some 16, .bin 0 .geq (.t 15) (.c (.int .u64 2305843009213693952)), [], some (14, false)⟩,
              ⟨some 17, .pick (.t 14) (.c (.bool true)) (.t 16), [], none⟩,
              ⟨some 18, .mv (.t 17), [], none⟩,
              ⟨some 19, .mv (.t 4), [], some (18, false)⟩,
              ⟨some 20, .call (.c (.fn (.func 188) [] [])) [.t 19], [], some (18, false)⟩,
              ⟨some 21, .un .not (.t 20), [], some (18, false)⟩,
              ⟨some 22, .pick (.t 18) (.c (.bool true)) (.t 21), [], none⟩,
              ⟨some 23, .mv (.t 22), [], none⟩,
              ⟨some 24, .mv (.t 0), [], some (23, false)⟩,
              ⟨some 25, .mv (.t 3), [], some (23, false)⟩,
              ⟨some 26, .slc 1 (.t 24) none (some (.t 25)) none, [], some (23, false)⟩,
              ⟨some 27, .mv (.t 4), [], some (23, false)⟩,
              ⟨some 28, .call (.c (.fn (.func 185) [] [])) [.t 26, .t 27], [], some (23, false)⟩,
              ⟨some 29, .pick (.t 23) (.c (.bool true)) (.t 28), [], none⟩])
           (.seq (.live [0, 5, 6, 7, 15, 16, 19, 20, 21, 24, 25, 26, 27, 28, 29, 35, 36, 37]) (.cnd (.t 29) (.seq (.reg [⟨some 2, .mv (.c (.bool false)), [], none⟩])
             .ret)
            .skip))))))
        (.seq (.live [0, 5, 6, 7, 15, 16, 19, 20, 21, 24, 25, 26, 27, 28, 35, 36, 37]) (.reg [⟨some 30, .bin 0 .add (.t 7) (.c (.int .i64 1)), [], none⟩,
           ⟨some 7, .mv (.t 30), [], none⟩])))))))))))
  (.seq (.live [0, 35, 36, 37]) (.seq (.reg [⟨some 31, .mv (.t 0), [], none⟩,
      ⟨some 32, .len (.t 31), [], none⟩,
      ⟨some 33, .bin 0 .gtr (.t 32) (.c (.int .i64 0)), [], none⟩,
      ⟨some 34, .mv (.t 33), [], none⟩,
      ⟨some 35, .mv (.t 0), [], some (34, true)⟩,
      ⟨some 36, .len (.t 35), [], some (34, true)⟩,
      ⟨some 37, .bin 0 .leq (.t 36) (.c (.int .i64 24)), [], some (34, true)⟩,
      ⟨some 38, .pick (.t 34) (.t 37) (.c (.bool false)), [], none⟩,
      ⟨some 2, .mv (.t 38), [], none⟩])
   .ret))))) }

/-- arras/nat.byWord -/
def ir199 : IFn :=
 { nt := 35, res := [.t 4, .t 5],
   body := (.seq (.reg [⟨some 4, .mv (.c (.lit (.slice none 0 0))), [], none⟩,
    ⟨some 5, .mv (.c (.int .u64 0)), [], none⟩])
 (.seq (.live [0, 1]) (.seq (.reg [⟨some 9, .mv (.t 0), [], none⟩,
     ⟨some 10, .len (.t 9), [], none⟩,
     ⟨some 11, .mksl true 1 (.int .u64 0) 8 (.t 10) (.t 10), [], none⟩,
     ⟨some 6, .mv (.t 11), [], none⟩,
     ⟨some 7, .mv (.c (.int .u64 0)), [], none⟩])
  (.seq (.live [0, 1, 6, 7]) (.seq (.seq (.reg [⟨some 12, .mv (.t 0), [], none⟩,
       ⟨some 13, .len (.t 12), [], none⟩,
       ⟨some 14, .bin 0 .sub (.t 13) (.c (.int .i64 1)), [], none⟩,
       ⟨some 8, .mv (.t 14), [], none⟩])
    (.seq (.live [0, 1, 6, 7, 8]) (.blk 0 (.loop (.seq (.live [0, 1, 6, 7, 8]) (.seq (.seq (.reg [⟨some 15, .mv (.t 8), [], none⟩,
           ⟨some 16, .bin 0 .geq (.t 15) (.c (.int .i64 0)), [], none⟩])
        (.seq (.live [0, 1, 6, 7, 8, 16]) (.cnd (.t 16) .skip
         (.exit 0))))
       (.seq (.live [0, 1, 6, 7, 8]) (.seq (.blk 1 (.reg [⟨some 20, .mv (.t 6), [], none⟩,
            ⟨some 21, .mv (.t 8), [], none⟩,
            ⟨some 22, .mv (.t 7), [], none⟩,
            ⟨some 23, .mv (.t 0), [], none⟩,
            ⟨some 24, .mv (.t 8), [], none⟩,
            ⟨some 25, .ia 1 (.t 23) (.t 24), [], none⟩,
            ⟨some 26, .ld false 1 (.t 25), [], none⟩,
            ⟨some 27, .mv (.t 1), [], none⟩,
            ⟨some 28, .call (.c (.fn (.func 230) [] [])) [.t 22, .t 26, .t 27], [], none⟩,
            ⟨some 19, .mv (.t 28), [], none⟩,
            ⟨some 29, .ext (.t 19) 0, [], none⟩,
            ⟨some 30, .ext (.t 19) 1, [], none⟩,
            ⟨some 31, .ia 1 (.t 20) (.t 21), [], none⟩,
            ⟨none, .st 1 (.t 31) (.t 29), [], none⟩,
            ⟨some 7, .mv (.t 30), [], none⟩]))
        (.seq (.live [0, 1, 6, 7, 8]) (.reg [⟨some 17, .mv (.t 8), [], none⟩,
           ⟨some 18, .bin 0 .sub (.t 17) (.c (.int .i64 1)), [], none⟩,
           ⟨some 8, .mv (.t 18), [], none⟩]))))))))))
   (.seq (.live [6, 7]) (.seq (.reg [⟨some 32, .mv (.t 6), [], none⟩,
       ⟨some 33, .call (.c (.fn (.func 138) [] [])) [.t 32], [], none⟩,
       ⟨some 34, .mv (.t 7), [], none⟩,
       ⟨some 4, .mv (.t 33), [], none⟩,
       ⟨some 5, .mv (.t 34), [], none⟩])
    .ret))))))) }

/-- arras/nat.Mod -/
def ir134 : IFn :=
 { nt := 16, res := [.t 4],
   body := (.seq (.reg [⟨some 4, .mv (.c (.int .u64 0)), [], none⟩])
 (.seq (.live [0, 1]) (.seq (.seq (.reg [⟨some 7, .mv (.t 1), [], none⟩,
      ⟨some 8, .bin 0 .eql (.t 7) (.c (.int .u64 0)), [], none⟩])
   (.seq (.live [0, 1, 8]) (.cnd (.t 8) (.seq (.reg [⟨some 4, .mv (.c (.int .u64 0)), [], none⟩])
     .ret)
    .skip)))
  (.seq (.live [0, 1]) (.seq (.reg [⟨some 10, .mv (.t 0), [], none⟩,
      ⟨some 11, .mv (.t 1), [], none⟩,
      ⟨some 12, .call (.c (.fn (.func 199) [] [])) [.t 10, .t 11], [], none⟩,
      ⟨some 9, .mv (.t 12), [], none⟩,
      ⟨some 13, .ext (.t 9) 0, [], none⟩,
      ⟨some 14, .ext (.t 9) 1, [], none⟩,
      ⟨some 5, .mv (.t 13), [], none⟩,
      ⟨some 6, .mv (.t 14), [], none⟩])
   (.seq (.live [6]) (.seq (.reg [⟨some 15, .mv (.t 6), [], none⟩,
       ⟨some 4, .mv (.t 15), [], none⟩])
    .ret))))))) }

/-- arras/crt.residue -/
def ir140 : IFn :=
 { nt := 16, res := [.t 4],
   body := (.seq (.reg [⟨some 2, .box 2 (.t 0), [], none⟩,
    ⟨some 4, .mv (.c (.int .u64 0)), [], none⟩])
 (.seq (.live [1, 2]) (.seq (.reg [⟨some 6, .fa false 1 1 (.t 2), [], none⟩,
     ⟨some 7, .ld false 1 (.t 6), [], none⟩,
     ⟨some 8, .mv (.t 1), [], none⟩,
     ⟨some 9, .call (.c (.fn (.func 134) [] [])) [.t 7, .t 8], [], none⟩,
     ⟨some 5, .mv (.t 9), [], none⟩])
  (.seq (.live [1, 2, 5]) (.seq (.seq (.reg [⟨some 10, .fa false 1 0 (.t 2), [], none⟩,
       ⟨some 11, .ld false 1 (.t 10), [], none⟩])
    (.seq (.live [1, 5, 11]) (.cnd (.t 11) (.seq (.reg [⟨some 12, .mv (.t 5), [], none⟩,
         ⟨some 13, .mv (.t 1), [], none⟩,
         ⟨some 14, .call (.c (.fn (.func 177) [] [])) [.c (.int .u64 0), .t 12, .t 13], [], none⟩,
         ⟨some 4, .mv (.t 14), [], none⟩])
      .ret)
     .skip)))
   (.seq (.live [5]) (.seq (.reg [⟨some 15, .mv (.t 5), [], none⟩,
       ⟨some 4, .mv (.t 15), [], none⟩])
    .ret))))))) }

/-- arras/crt.Element -/
def ir66 : IFn :=
 { nt := 54, res := [.cell 4 true 1, .t 5],
   body := (.seq (.reg [⟨some 4, .new (.agg [.lit (.slice none 0 0)]), [], none⟩,
    ⟨some 5, .mv (.c (.int .i64 0)), [], none⟩])
 (.seq (.live [0, 1, 4]) (.seq (.blk 0 (.seq (.reg [⟨some 13, .mv (.t 1), [], none⟩,
       ⟨some 14, .call (.c (.fn (.func 139) [] [])) [.t 13], [], none⟩,
       ⟨some 15, .un .not (.t 14), [], none⟩,
       ⟨some 12, .mv (.t 15), [], none⟩])
    (.seq (.live [0, 1, 4, 12]) (.cnd (.t 12) (.seq (.reg [⟨some 16, .build [.lit (.slice none 0 0)] [], [], none⟩,
         ⟨none, .st 1 (.t 4) (.t 16), [], none⟩,
         ⟨some 5, .mv (.c (.int .i64 1)), [], none⟩])
      .ret)
     (.seq (.reg [⟨some 18, .mv (.t 0), [], none⟩,
         ⟨some 19, .len (.t 18), [], none⟩,
         ⟨some 20, .bin 0 .eql (.t 19) (.c (.int .i64 0)), [], none⟩,
         ⟨some 17, .mv (.t 20), [], none⟩])
      (.seq (.live [0, 1, 4, 17]) (.cnd (.t 17) (.seq (.reg [⟨some 21, .build [.lit (.slice none 0 0)] [], [], none⟩,
           ⟨none, .st 1 (.t 4) (.t 21), [], none⟩,
           ⟨some 5, .mv (.c (.int .i64 3)), [], none⟩])
        .ret)
       .skip)))))))
  (.seq (.live [0, 1, 4]) (.seq (.reg [⟨some 22, .build [.lit (.slice none 0 0)] [], [], none⟩,
      ⟨some 6, .new (.agg [.lit (.slice none 0 0)]), [], none⟩,
      ⟨none, .st 1 (.t 6) (.t 22), [], none⟩])
   (.seq (.live [0, 1, 4, 6]) (.seq (.seq (.reg [⟨some 23, .mv (.t 1), [], none⟩,
        ⟨some 24, .len (.t 23), [], none⟩,
        ⟨some 25, .mv (.c (.int .i64 0)), [], none⟩])
     (.seq (.live [0, 4, 6, 23, 24, 25]) (.blk 1 (.loop (.seq (.live [0, 4, 6, 23, 24, 25]) (.seq (.reg [⟨some 26, .bin 0 .lss (.t 25) (.t 24), [], none⟩])
        (.seq (.live [0, 4, 6, 23, 24, 25, 26]) (.seq (.cnd (.t 26) .skip
          (.exit 1))
         (.seq (.blk 2 (.seq (.reg [⟨some 27, .ia 1 (.t 23) (.t 25), [], none⟩,
               ⟨some 28, .ld false 1 (.t 27), [], none⟩,
               ⟨some 8, .mv (.t 28), [], none⟩])
            (.seq (.live [0, 4, 6, 8, 23, 24, 25]) (.seq (.reg [⟨some 29, .mv (.t 0), [], none⟩,
                ⟨some 30, .len (.t 29), [], none⟩,
                ⟨some 31, .mksl true 1 (.int .u64 0) 8 (.t 30) (.t 30), [], none⟩,
                ⟨some 9, .mv (.t 31), [], none⟩])
             (.seq (.live [0, 4, 6, 8, 9, 23, 24, 25]) (.seq (.seq (.reg [⟨some 32, .mv (.t 0), [], none⟩,
                  ⟨some 33, .len (.t 32), [], none⟩,
                  ⟨some 34, .mv (.c (.int .i64 0)), [], none⟩])
               (.seq (.live [0, 4, 6, 8, 9, 23, 24, 25, 32, 33, 34]) (.blk 3 (.loop (.seq (.live [0, 4, 6, 8, 9, 23, 24, 25, 32, 33, 34]) (.seq (.reg [⟨some 35, .bin 0 .lss (.t 34) (.t 33), [], none⟩])
                  (.seq (.live [0, 4, 6, 8, 9, 23, 24, 25, 32, 33, 34, 35]) (.seq (.cnd (.t 35) .skip
                    (.exit 3))
                   (.seq (.blk 4 (.seq (.reg [⟨some 36, .mv (.t 34), [], none⟩,
                         ⟨some 37, .ia 2 (.t 32) (.t 34), [], none⟩,
                         ⟨some 38, .ld true 2 (.t 37), [], none⟩,
                         ⟨some 11, .new (.agg [.bool false, .lit (.slice none 0 0)]), [], none⟩,
                         ⟨some 10, .mv (.t 36), [], none⟩,
                         ⟨none, .st 2 (.t 11) (.t 38), [], none⟩])
                      (.seq (.live [0, 4, 6, 8, 9, 10, 11, 23, 24, 25, 32, 33, 34]) (.reg [⟨some 39, .mv (.t 9), [], none⟩,
                         ⟨some 40, .mv (.t 10), [], none⟩,
                         ⟨some 41, .ld true 2 (.t 11), [], none⟩,
                         ⟨some 42, .mv (.t 8), [], none⟩,
                         ⟨some 43, .call (.c (.fn (.func 140) [] [])) [.t 41, .t 42], [], none⟩,
                         ⟨some 44, .ia 1 (.t 39) (.t 40), [], none⟩,
                         ⟨none, .st 1 (.t 44) (.t 43), [], none⟩]))))
                    (.seq (.live [0, 4, 6, 8, 9, 23, 24, 25, 32, 33, 34]) (.reg [⟨some 45, .bin 0 .add (.t 34) (.c (.int .i64 1)), [], none⟩,
                       ⟨some 34, .mv (.t 45), [], none⟩])))))))))))
              (.seq (.live [0, 4, 6, 9, 23, 24, 25]) (.reg [⟨some 46, .fa false 1 0 (.t 6), [], none⟩,
                 ⟨some 47, .ld false 1 (.t 46), [], none⟩,
                 ⟨some 48, .mv (.t 9), [], none⟩,
                 ⟨some 49, .bsl false 1 (.lit (.slice none 0 0)) 1 [(0, .t 48)], [], none⟩,
                 ⟨some 50, .app false 1 24 (.t 47) (.t 49), [], none⟩,
                 ⟨some 51, .fa false 1 0 (.t 6), [], none⟩,
                 ⟨none, .st 1 (.t 51) (.t 50), [], none⟩]))))))))
          (.seq (.live [0, 4, 6, 23, 24, 25]) (.reg [⟨some 52, .bin 0 .add (.t 25) (.c (.int .i64 1)), [], none⟩,
             ⟨some 25, .mv (.t 52), [], none⟩])))))))))))
    (.seq (.live [4, 6]) (.seq (.reg [⟨some 53, .ld true 1 (.t 6), [], none⟩,
        ⟨none, .st 1 (.t 4) (.t 53), [], none⟩,
        ⟨some 5, .mv (.c (.int .i64 0)), [], none⟩])
     .ret))))))))) }

/-- arras/crt.Wholes$1 -/
def ir236 : IFn :=
 { nt := 11, res := [.t 4],
   body := (.seq (.reg [⟨some 4, .mv (.c (.bool false)), [], none⟩])
 (.seq (.live [0, 1, 2]) (.seq (.reg [⟨some 5, .mv (.t 0), [], none⟩,
     ⟨some 6, .ld false 1 (.t 1), [], none⟩,
     ⟨some 7, .ld false 1 (.t 2), [], none⟩,
     ⟨some 8, .ia 1 (.t 6) (.t 7), [], none⟩,
     ⟨some 9, .ld false 1 (.t 8), [], none⟩,
     ⟨some 10, .bin 0 .geq (.t 5) (.t 9), [], none⟩,
     ⟨some 4, .mv (.t 10), [], none⟩])
  .ret))) }

/-- arras/nat.Add -/
def ir238 : IFn :=
 { nt := 53, res := [.t 4],
   body := (.seq (.reg [⟨some 4, .mv (.c (.lit (.slice none 0 0))), [], none⟩])
 (.seq (.live [0, 1]) (.seq (.seq (.reg [⟨some 10, .mv (.t 0), [], none⟩,
      ⟨some 11, .len (.t 10), [], none⟩,
      ⟨some 12, .mv (.t 1), [], none⟩,
      ⟨some 13, .len (.t 12), [], none⟩,
      ⟨some 14, .bin 0 .lss (.t 11) (.t 13), [], none⟩])
   (.seq (.live [0, 1, 14]) (.cnd (.t 14) (.reg [⟨some 15, .mv (.t 1), [], none⟩,
       ⟨some 16, .mv (.t 0), [], none⟩,
       ⟨some 0, .mv (.t 15), [], none⟩,
       ⟨some 1, .mv (.t 16), [], none⟩])
    .skip)))
  (.seq (.live [0, 1]) (.seq (.reg [⟨some 17, .mv (.t 0), [], none⟩,
      ⟨some 18, .len (.t 17), [], none⟩,
      ⟨some 19, .bin 0 .add (.t 18) (.c (.int .i64 1)), [], none⟩,
      ⟨some 20, .mksl true 1 (.int .u64 0) 8 (.c (.int .i64 0)) (.t 19), [], none⟩,
      ⟨some 5, .mv (.t 20), [], none⟩,
      ⟨some 6, .mv (.c (.int .u64 0)), [], none⟩])
   (.seq (.live [0, 1, 5, 6]) (.seq (.seq (.reg [⟨some 21, .mv (.t 0), [], none⟩,
        ⟨some 22, .len (.t 21), [], none⟩,
        ⟨some 23, .mv (.c (.int .i64 0)), [], none⟩])
     (.seq (.live [1, 5, 6, 21, 22, 23]) (.blk 0 (.loop (.seq (.live [1, 5, 6, 21, 22, 23]) (.seq (.reg [⟨some 24, .bin 0 .lss (.t 23) (.t 22), [], none⟩])
        (.seq (.live [1, 5, 6, 21, 22, 23, 24]) (.seq (.cnd (.t 24) .skip
          (.exit 0))
         (.seq (.blk 1 (.seq (.reg [⟨some 25, .mv (.t 23), [], none⟩,
               ⟨some 26, .ia 1 (.t 21) (.t 23), [], none⟩,
               ⟨some 27, .ld false 1 (.t 26), [], none⟩,
               ⟨some 7, .mv (.t 25), [], none⟩,
               ⟨some 8, .mv (.t 27), [], none⟩])
            (.seq (.live [1, 5, 6, 7, 8, 21, 22, 23]) (.seq (.reg [⟨some 9, .mv (.c (.int .u64 0)), [], none⟩])
             (.seq (.live [1, 5, 6, 7, 8, 9, 21, 22, 23]) (.seq (.seq (.reg [⟨some 28, .mv (.t 7), [], none⟩,
                  ⟨some 29, .mv (.t 1), [], none⟩,
                  ⟨some 30, .len (.t 29), [], none⟩,
                  ⟨some 31, .bin 0 .lss (.t 28) (.t 30), [], none⟩])
               (.seq (.live [1, 5, 6, 7, 8, 9, 21, 22, 23, 31]) (.cnd (.t 31) (.reg [⟨some 32, .mv (.t 1), [], none⟩,
                   ⟨some 33, .mv (.t 7), [], none⟩,
                   ⟨some 34, .ia 1 (.t 32) (.t 33), [], none⟩,
                   ⟨some 35, .ld false 1 (.t 34), [], none⟩,
                   ⟨some 9, .mv (.t 35), [], none⟩])
                .skip)))
              (.seq (.live [1, 5, 6, 8, 9, 21, 22, 23]) (.seq (.reg [⟨some 37, .mv (.t 8), [], none⟩,
                  ⟨some 38, .mv (.t 9), [], none⟩,
                  ⟨some 39, .mv (.t 6), [], none⟩,
                  ⟨some 40, .call (.c (.fn (.func 197) [] [])) [.t 37, .t 38, .t 39], [], none⟩,
                  ⟨some 36, .mv (.t 40), [], none⟩,
                  ⟨some 41, .ext (.t 36) 0, [], none⟩,
                  ⟨some 42, .ext (.t 36) 1, [], none⟩,
                  ⟨some 8, .mv (.t 41), [], none⟩,
                  ⟨some 6, .mv (.t 42), [], none⟩])
               (.seq (.live [1, 5, 6, 8, 21, 22, 23]) (.reg [⟨some 43, .mv (.t 5), [], none⟩,
                  ⟨some 44, .mv (.t 8), [], none⟩,
                  ⟨some 45, .bsl true 1 (.int .u64 0) 1 [(0, .t 44)], [], none⟩,
                  ⟨some 46, .app true 1 8 (.t 43) (.t 45), [], none⟩,
                  ⟨some 5, .mv (.t 46), [], none⟩]))))))))))
          (.seq (.live [1, 5, 6, 21, 22, 23]) (.reg [⟨some 47, .bin 0 .add (.t 23) (.c (.int .i64 1)), [], none⟩,
             ⟨some 23, .mv (.t 47), [], none⟩])))))))))))
    (.seq (.live [5, 6]) (.seq (.reg [⟨some 48, .mv (.t 5), [], none⟩,
        ⟨some 49, .mv (.t 6), [], none⟩,
        ⟨some 50, .bsl true 1 (.int .u64 0) 1 [(0, .t 49)], [], none⟩,
        ⟨some 51, .app true 1 8 (.t 48) (.t 50), [], none⟩,
        ⟨some 52, .call (.c (.fn (.func 138) [] [])) [.t 51], [], none⟩,
        ⟨some 4, .mv (.t 52), [], none⟩])
     .ret))))))))) }

/-- (*arras/crt.grown).add -/
def ir244 : IFn :=
 { nt := 59, res := [],
   body := (.seq (.reg [⟨some 10, .mv (.t 0), [], none⟩,
    ⟨some 11, .nilc (.t 10), [], none⟩,
    ⟨some 12, .fa false 1 0 (.t 11), [], none⟩,
    ⟨some 13, .ld false 1 (.t 12), [], none⟩,
    ⟨some 14, .mv (.t 2), [], none⟩,
    ⟨some 15, .call (.c (.fn (.func 134) [] [])) [.t 13, .t 14], [], none⟩,
    ⟨some 6, .mv (.t 15), [], none⟩])
 (.seq (.live [0, 1, 2, 6]) (.seq (.reg [⟨some 17, .mv (.t 0), [], none⟩,
     ⟨some 18, .nilc (.t 17), [], none⟩,
     ⟨some 19, .fa false 1 1 (.t 18), [], none⟩,
     ⟨some 20, .ld false 1 (.t 19), [], none⟩,
     ⟨some 21, .mv (.t 2), [], none⟩,
     ⟨some 22, .call (.c (.fn (.func 134) [] [])) [.t 20, .t 21], [], none⟩,
     ⟨some 23, .mv (.t 2), [], none⟩,
     ⟨some 24, .call (.c (.fn (.func 191) [] [])) [.t 22, .t 23], [], none⟩,
     ⟨some 16, .mv (.t 24), [], none⟩,
     ⟨some 25, .ext (.t 16) 0, [], none⟩,
     ⟨some 26, .ext (.t 16) 1, [], none⟩,
     ⟨some 7, .mv (.t 25), [], none⟩,
     ⟨some 8, .mv (.t 26), [], none⟩])
  (.seq (.live [0, 1, 2, 6, 7]) (.seq (.reg [⟨some 27, .mv (.t 1), [], none⟩,
      ⟨some 28, .mv (.t 6), [], none⟩,
      ⟨some 29, .mv (.t 2), [], none⟩,
      ⟨some 30, .call (.c (.fn (.func 177) [] [])) [.t 27, .t 28, .t 29], [], none⟩,
      ⟨some 31, .mv (.t 7), [], none⟩,
      ⟨some 32, .mv (.t 2), [], none⟩,
      ⟨some 33, .call (.c (.fn (.func 193) [] [])) [.t 30, .t 31, .t 32], [], none⟩,
      ⟨some 9, .mv (.t 33), [], none⟩])
   (.seq (.live [0, 2, 9]) (.seq (.drw [⟨some 34, .mv (.t 0), [], none⟩,
       ⟨some 35, .mv (.t 0), [], none⟩,
       ⟨some 36, .nilc (.t 35), [1], none⟩,
       ⟨some 37, .fa false 1 0 (.t 36), [2], none⟩,
       ⟨some 38, .ld false 1 (.t 37), [3], none⟩,
       ⟨some 39, .mv (.t 0), [], none⟩,
       ⟨some 40, .nilc (.t 39), [5], none⟩,
       ⟨some 41, .fa false 1 1 (.t 40), [6], none⟩,
       ⟨some 42, .ld false 1 (.t 41), [7], none⟩,
       ⟨some 43, .mv (.t 9), [], none⟩,
       ⟨some 44, .call (.c (.fn (.func 65) [] [])) [.t 43], [9], none⟩,
       ⟨some 45, .call (.c (.fn (.func 137) [] [])) [.t 42, .t 44], [8, 10], none⟩,
       ⟨some 46, .call (.c (.fn (.func 238) [] [])) [.t 38, .t 45], [4, 11], none⟩,
       ⟨some 47, .nilc (.t 34), [0, 1, 2, 3, 4, 5, 6, 7, 8, 9, 10, 11, 12], none⟩,
       ⟨some 48, .fa false 1 0 (.t 47), [13, 0, 1, 2, 3, 4, 5, 6, 7, 8, 9, 10, 11, 12], none⟩,
       ⟨none, .st 1 (.t 48) (.t 46), [14, 12, 0, 1, 2, 3, 4, 5, 6, 7, 8, 9, 10, 11], none⟩])
    (.seq (.live [0, 2]) (.drw [⟨some 49, .mv (.t 0), [], none⟩,
       ⟨some 50, .mv (.t 0), [], none⟩,
       ⟨some 51, .nilc (.t 50), [1], none⟩,
       ⟨some 52, .fa false 1 1 (.t 51), [2], none⟩,
       ⟨some 53, .ld false 1 (.t 52), [3], none⟩,
       ⟨some 54, .mv (.t 2), [], none⟩,
       ⟨some 55, .call (.c (.fn (.func 65) [] [])) [.t 54], [5], none⟩,
       ⟨some 56, .call (.c (.fn (.func 137) [] [])) [.t 53, .t 55], [4, 6], none⟩,
       ⟨some 57, .nilc (.t 49), [0, 1, 2, 3, 4, 5, 6, 7], none⟩,
       ⟨some 58, .fa false 1 1 (.t 57), [8, 0, 1, 2, 3, 4, 5, 6, 7], none⟩,
       ⟨none, .st 1 (.t 58) (.t 56), [9, 7, 0, 1, 2, 3, 4, 5, 6], none⟩]))))))))) }

/-- arras/nat.Cmp -/
def ir198 : IFn :=
 { nt := 49, res := [.t 4],
   body := (.seq (.reg [⟨some 4, .mv (.c (.int .i64 0)), [], none⟩])
 (.seq (.live [0, 1]) (.seq (.reg [⟨some 6, .mv (.t 0), [], none⟩,
     ⟨some 7, .call (.c (.fn (.func 138) [] [])) [.t 6], [], none⟩,
     ⟨some 8, .mv (.t 1), [], none⟩,
     ⟨some 9, .call (.c (.fn (.func 138) [] [])) [.t 8], [], none⟩,
     ⟨some 0, .mv (.t 7), [], none⟩,
     ⟨some 1, .mv (.t 9), [], none⟩])
  (.seq (.live [0, 1]) (.seq (.blk 0 (.seq (.reg [⟨some 11, .mv (.t 0), [], none⟩,
        ⟨some 12, .len (.t 11), [], none⟩,
        ⟨some 13, .mv (.t 1), [], none⟩,
        ⟨some 14, .len (.t 13), [], none⟩,
        ⟨some 15, .bin 0 .lss (.t 12) (.t 14), [], none⟩,
        ⟨some 10, .mv (.t 15), [], none⟩])
     (.seq (.live [0, 1, 10]) (.cnd (.t 10) (.seq (.reg [⟨some 4, .mv (.c (.int .i64 (-1))), [], none⟩])
       .ret)
      (.seq (.reg [⟨some 17, .mv (.t 0), [], none⟩,
          ⟨some 18, .len (.t 17), [], none⟩,
          ⟨some 19, .mv (.t 1), [], none⟩,
          ⟨some 20, .len (.t 19), [], none⟩,
          ⟨some 21, .bin 0 .gtr (.t 18) (.t 20), [], none⟩,
          ⟨some 16, .mv (.t 21), [], none⟩])
       (.seq (.live [0, 1, 16]) (.cnd (.t 16) (.seq (.reg [⟨some 4, .mv (.c (.int .i64 1)), [], none⟩])
         .ret)
        .skip)))))))
   (.seq (.live [0, 1]) (.seq (.seq (.reg [⟨some 22, .mv (.t 0), [], none⟩,
        ⟨some 23, .len (.t 22), [], none⟩,
        ⟨some 24, .bin 0 .sub (.t 23) (.c (.int .i64 1)), [], none⟩,
        ⟨some 5, .mv (.t 24), [], none⟩])
     (.seq (.live [0, 1, 5]) (.blk 1 (.loop (.seq (.live [0, 1, 5]) (.seq (.seq (.reg [⟨some 25, .mv (.t 5), [], none⟩,
            ⟨some 26, .bin 0 .geq (.t 25) (.c (.int .i64 0)), [], none⟩])
         (.seq (.live [0, 1, 5, 26]) (.cnd (.t 26) .skip
          (.exit 1))))
        (.seq (.live [0, 1, 5]) (.seq (.blk 2 (.blk 3 (.seq (.drw [⟨some 30, .mv (.t 0), [], none⟩,
               ⟨some 31, .mv (.t 5), [], none⟩,
               ⟨some 32, .ia 1 (.t 30) (.t 31), [0, 1], none⟩,
               ⟨some 33, .ld false 1 (.t 32), [2], none⟩,
               ⟨some 34, .mv (.t 1), [], none⟩,
               ⟨some 35, .mv (.t 5), [], none⟩,
               ⟨some 36, .ia 1 (.t 34) (.t 35), [4, 5], none⟩,
               ⟨some 37, .ld false 1 (.t 36), [6], none⟩,
               ⟨some 38, .bin 0 .lss (.t 33) (.t 37), [3, 7], none⟩,
               ⟨some 29, .mv (.t 38), [8], none⟩])
            (.seq (.live [0, 1, 5, 29]) (.cnd (.t 29) (.seq (.reg [⟨some 4, .mv (.c (.int .i64 (-1))), [], none⟩])
              .ret)
             (.seq (.drw [⟨some 40, .mv (.t 0), [], none⟩,
                 ⟨some 41, .mv (.t 5), [], none⟩,
                 ⟨some 42, .ia 1 (.t 40) (.t 41), [0, 1], none⟩,
                 ⟨some 43, .ld false 1 (.t 42), [2], none⟩,
                 ⟨some 44, .mv (.t 1), [], none⟩,
                 ⟨some 45, .mv (.t 5), [], none⟩,
                 ⟨some 46, .ia 1 (.t 44) (.t 45), [4, 5], none⟩,
                 ⟨some 47, .ld false 1 (.t 46), [6], none⟩,
                 ⟨some 48, .bin 0 .gtr (.t 43) (.t 47), [3, 7], none⟩,
                 ⟨some 39, .mv (.t 48), [8], none⟩])
              (.seq (.live [0, 1, 5, 39]) (.cnd (.t 39) (.seq (.reg [⟨some 4, .mv (.c (.int .i64 1)), [], none⟩])
                .ret)
               .skip))))))))
         (.seq (.live [0, 1, 5]) (.reg [⟨some 27, .mv (.t 5), [], none⟩,
            ⟨some 28, .bin 0 .sub (.t 27) (.c (.int .i64 1)), [], none⟩,
            ⟨some 5, .mv (.t 28), [], none⟩]))))))))))
    (.seq (.live []) (.seq (.reg [⟨some 4, .mv (.c (.int .i64 0)), [], none⟩])
     .ret))))))))) }

/-- arras/nat.Sub -/
def ir248 : IFn :=
 { nt := 49, res := [.t 4, .t 5],
   body := (.seq (.reg [⟨some 4, .mv (.c (.lit (.slice none 0 0))), [], none⟩,
    ⟨some 5, .mv (.c (.int .i64 0)), [], none⟩])
 (.seq (.live [0, 1]) (.seq (.seq (.reg [⟨some 11, .mv (.t 0), [], none⟩,
      ⟨some 12, .mv (.t 1), [], none⟩,
      ⟨some 13, .call (.c (.fn (.func 198) [] [])) [.t 11, .t 12], [], none⟩,
      ⟨some 14, .bin 0 .lss (.t 13) (.c (.int .i64 0)), [], none⟩])
   (.seq (.live [0, 1, 14]) (.cnd (.t 14) (.seq (.reg [⟨some 4, .mv (.c (.lit (.slice none 0 0))), [], none⟩,
        ⟨some 5, .mv (.c (.int .i64 5)), [], none⟩])
     .ret)
    .skip)))
  (.seq (.live [0, 1]) (.seq (.reg [⟨some 15, .mv (.t 1), [], none⟩,
      ⟨some 16, .call (.c (.fn (.func 138) [] [])) [.t 15], [], none⟩,
      ⟨some 1, .mv (.t 16), [], none⟩])
   (.seq (.live [0, 1]) (.seq (.reg [⟨some 17, .mv (.t 0), [], none⟩,
       ⟨some 18, .len (.t 17), [], none⟩,
       ⟨some 19, .mksl true 1 (.int .u64 0) 8 (.c (.int .i64 0)) (.t 18), [], none⟩,
       ⟨some 6, .mv (.t 19), [], none⟩,
       ⟨some 7, .mv (.c (.int .u64 0)), [], none⟩])
    (.seq (.live [0, 1, 6, 7]) (.seq (.seq (.reg [⟨some 20, .mv (.t 0), [], none⟩,
         ⟨some 21, .len (.t 20), [], none⟩,
         ⟨some 22, .mv (.c (.int .i64 0)), [], none⟩])
      (.seq (.live [1, 6, 7, 20, 21, 22]) (.blk 0 (.loop (.seq (.live [1, 6, 7, 20, 21, 22]) (.seq (.reg [⟨some 23, .bin 0 .lss (.t 22) (.t 21), [], none⟩])
         (.seq (.live [1, 6, 7, 20, 21, 22, 23]) (.seq (.cnd (.t 23) .skip
           (.exit 0))
          (.seq (.blk 1 (.seq (.reg [⟨some 24, .mv (.t 22), [], none⟩,
                ⟨some 25, .ia 1 (.t 20) (.t 22), [], none⟩,
                ⟨some 26, .ld false 1 (.t 25), [], none⟩,
                ⟨some 8, .mv (.t 24), [], none⟩,
                ⟨some 9, .mv (.t 26), [], none⟩])
             (.seq (.live [1, 6, 7, 8, 9, 20, 21, 22]) (.seq (.reg [⟨some 10, .mv (.c (.int .u64 0)), [], none⟩])
              (.seq (.live [1, 6, 7, 8, 9, 10, 20, 21, 22]) (.seq (.seq (.reg [⟨some 27, .mv (.t 8), [], none⟩,
                   ⟨some 28, .mv (.t 1), [], none⟩,
                   ⟨some 29, .len (.t 28), [], none⟩,
                   ⟨some 30, .bin 0 .lss (.t 27) (.t 29), [], none⟩])
                (.seq (.live [1, 6, 7, 8, 9, 10, 20, 21, 22, 30]) (.cnd (.t 30) (.reg [⟨some 31, .mv (.t 1), [], none⟩,
                    ⟨some 32, .mv (.t 8), [], none⟩,
                    ⟨some 33, .ia 1 (.t 31) (.t 32), [], none⟩,
                    ⟨some 34, .ld false 1 (.t 33), [], none⟩,
                    ⟨some 10, .mv (.t 34), [], none⟩])
                 .skip)))
               (.seq (.live [1, 6, 7, 9, 10, 20, 21, 22]) (.seq (.reg [⟨some 36, .mv (.t 9), [], none⟩,
                   ⟨some 37, .mv (.t 10), [], none⟩,
                   ⟨some 38, .mv (.t 7), [], none⟩,
                   ⟨some 39, .call (.c (.fn (.func 231) [] [])) [.t 36, .t 37, .t 38], [], none⟩,
                   ⟨some 35, .mv (.t 39), [], none⟩,
                   ⟨some 40, .ext (.t 35) 0, [], none⟩,
                   ⟨some 41, .ext (.t 35) 1, [], none⟩,
                   ⟨some 9, .mv (.t 40), [], none⟩,
                   ⟨some 7, .mv (.t 41), [], none⟩])
                (.seq (.live [1, 6, 7, 9, 20, 21, 22]) (.reg [⟨some 42, .mv (.t 6), [], none⟩,
                   ⟨some 43, .mv (.t 9), [], none⟩,
                   ⟨some 44, .bsl true 1 (.int .u64 0) 1 [(0, .t 43)], [], none⟩,
                   ⟨some 45, .app true 1 8 (.t 42) (.t 44), [], none⟩,
                   ⟨some 6, .mv (.t 45), [], none⟩]))))))))))
           (.seq (.live [1, 6, 7, 20, 21, 22]) (.reg [⟨some 46, .bin 0 .add (.t 22) (.c (.int .i64 1)), [], none⟩,
              ⟨some 22, .mv (.t 46), [], none⟩])))))))))))
     (.seq (.live [6]) (.seq (.reg [⟨some 47, .mv (.t 6), [], none⟩,
         ⟨some 48, .call (.c (.fn (.func 138) [] [])) [.t 47], [], none⟩,
         ⟨some 4, .mv (.t 48), [], none⟩,
         ⟨some 5, .mv (.c (.int .i64 0)), [], none⟩])
      .ret))))))))))) }

/-- (*arras/crt.grown).centered -/
def ir245 : IFn :=
 { nt := 31, res := [.cell 2 true 2],
   body := (.seq (.reg [⟨some 2, .new (.agg [.bool false, .lit (.slice none 0 0)]), [], none⟩])
 (.seq (.live [0, 2]) (.seq (.drw [⟨some 6, .mv (.t 0), [], none⟩,
     ⟨some 7, .nilc (.t 6), [0], none⟩,
     ⟨some 8, .fa false 1 1 (.t 7), [1], none⟩,
     ⟨some 9, .ld false 1 (.t 8), [2], none⟩,
     ⟨some 10, .mv (.t 0), [], none⟩,
     ⟨some 11, .nilc (.t 10), [4], none⟩,
     ⟨some 12, .fa false 1 0 (.t 11), [5], none⟩,
     ⟨some 13, .ld false 1 (.t 12), [6], none⟩,
     ⟨some 14, .call (.c (.fn (.func 248) [] [])) [.t 9, .t 13], [3, 7], none⟩,
     ⟨some 5, .mv (.t 14), [8], none⟩,
     ⟨some 15, .ext (.t 5) 0, [9], none⟩,
     ⟨some 16, .ext (.t 5) 1, [9], none⟩,
     ⟨some 3, .mv (.t 15), [10, 8, 0, 1, 2, 3, 4, 5, 6, 7, 9], none⟩,
     ⟨some 4, .mv (.t 16), [11, 12, 0, 1, 2, 3, 4, 5, 6, 7, 8, 9, 10], none⟩])
  (.seq (.live [0, 2, 3]) (.seq (.seq (.reg [⟨some 17, .mv (.t 3), [], none⟩,
       ⟨some 18, .mv (.t 0), [], none⟩,
       ⟨some 19, .nilc (.t 18), [], none⟩,
       ⟨some 20, .fa false 1 0 (.t 19), [], none⟩,
       ⟨some 21, .ld false 1 (.t 20), [], none⟩,
       ⟨some 22, .call (.c (.fn (.func 198) [] [])) [.t 17, .t 21], [], none⟩,
       ⟨some 23, .bin 0 .lss (.t 22) (.c (.int .i64 0)), [], none⟩])
    (.seq (.live [0, 2, 3, 23]) (.cnd (.t 23) (.seq (.reg [⟨some 24, .mv (.t 3), [], none⟩,
         ⟨some 25, .build [.bool false, .lit (.slice none 0 0)] [(0, 1, .c (.bool true)), (1, 1, .t 24)], [], none⟩,
         ⟨none, .st 2 (.t 2) (.t 25), [], none⟩])
      .ret)
     .skip)))
   (.seq (.live [0, 2]) (.seq (.reg [⟨some 26, .mv (.t 0), [], none⟩,
       ⟨some 27, .nilc (.t 26), [], none⟩,
       ⟨some 28, .fa false 1 0 (.t 27), [], none⟩,
       ⟨some 29, .ld false 1 (.t 28), [], none⟩,
       ⟨some 30, .build [.bool false, .lit (.slice none 0 0)] [(1, 1, .t 29)], [], none⟩,
       ⟨none, .st 2 (.t 2) (.t 30), [], none⟩])
    .ret))))))) }

/-- arras/crt.whole -/
def ir237 : IFn :=
 { nt := 30, res := [.cell 4 true 2],
   body := (.seq (.reg [⟨some 4, .new (.agg [.bool false, .lit (.slice none 0 0)]), [], none⟩])
 (.seq (.live [0, 1, 4]) (.seq (.reg [⟨some 9, .bsl true 1 (.int .u64 0) 1 [(0, .c (.int .u64 1))], [], none⟩,
     ⟨some 10, .build [.lit (.slice none 0 0), .lit (.slice none 0 0)] [(1, 1, .t 9)], [], none⟩,
     ⟨some 11, .box 2 (.t 10), [], none⟩,
     ⟨some 5, .mv (.t 11), [], none⟩])
  (.seq (.live [0, 1, 4, 5]) (.seq (.reg [⟨some 6, .mv (.c (.fn (.func 244) [] [])), [], none⟩])
   (.seq (.live [0, 1, 4, 5, 6]) (.seq (.seq (.reg [⟨some 12, .mv (.t 1), [], none⟩,
        ⟨some 13, .len (.t 12), [], none⟩,
        ⟨some 14, .mv (.c (.int .i64 0)), [], none⟩])
     (.seq (.live [0, 4, 5, 6, 12, 13, 14]) (.blk 0 (.loop (.seq (.live [0, 4, 5, 6, 12, 13, 14]) (.seq (.reg [⟨some 15, .bin 0 .lss (.t 14) (.t 13), [], none⟩])
        (.seq (.live [0, 4, 5, 6, 12, 13, 14, 15]) (.seq (.cnd (.t 15) .skip
          (.exit 0))
         (.seq (.blk 1 (.seq (.reg [⟨some 16, .mv (.t 14), [], none⟩,
               ⟨some 17, .ia 1 (.t 12) (.t 14), [], none⟩,
               ⟨some 18, .ld false 1 (.t 17), [], none⟩,
               ⟨some 7, .mv (.t 16), [], none⟩,
               ⟨some 8, .mv (.t 18), [], none⟩])
            (.seq (.live [0, 4, 5, 6, 7, 8, 12, 13, 14]) (.reg [⟨some 19, .mv (.t 6), [], none⟩,
               ⟨some 20, .mv (.t 5), [], none⟩,
               ⟨some 21, .mv (.t 0), [], none⟩,
               ⟨some 22, .mv (.t 7), [], none⟩,
               ⟨some 23, .ia 1 (.t 21) (.t 22), [], none⟩,
               ⟨some 24, .ld false 1 (.t 23), [], none⟩,
               ⟨some 25, .mv (.t 8), [], none⟩,
               ⟨some 26, .call (.t 19) [.t 20, .t 24, .t 25], [], none⟩]))))
          (.seq (.live [0, 4, 5, 6, 12, 13, 14]) (.reg [⟨some 27, .bin 0 .add (.t 14) (.c (.int .i64 1)), [], none⟩,
             ⟨some 14, .mv (.t 27), [], none⟩])))))))))))
    (.seq (.live [4, 5]) (.seq (.reg [⟨some 28, .mv (.t 5), [], none⟩,
        ⟨some 29, .call (.c (.fn (.func 245) [] [])) [.t 28], [], none⟩,
        ⟨none, .st 2 (.t 4) (.t 29), [], none⟩])
     .ret))))))))) }

/-- arras/crt.Wholes -/
def ir216 : IFn :=
 { nt := 84, res := [.t 4, .t 5],
   body := (.seq (.reg [⟨some 2, .box 1 (.t 0), [], none⟩,
    ⟨some 3, .box 1 (.t 1), [], none⟩,
    ⟨some 4, .mv (.c (.lit (.slice none 0 0))), [], none⟩,
    ⟨some 5, .mv (.c (.int .i64 0)), [], none⟩])
 (.seq (.live [2, 3, 40, 41, 42]) (.seq (.blk 0 (.seq (.reg [⟨some 13, .ld false 1 (.t 3), [], none⟩,
       ⟨some 14, .call (.c (.fn (.func 139) [] [])) [.t 13], [], none⟩,
       ⟨some 15, .un .not (.t 14), [], none⟩,
       ⟨some 12, .mv (.t 15), [], none⟩])
    (.seq (.live [2, 3, 12, 40, 41, 42]) (.cnd (.t 12) (.seq (.reg [⟨some 4, .mv (.c (.lit (.slice none 0 0))), [], none⟩,
         ⟨some 5, .mv (.c (.int .i64 1)), [], none⟩])
      .ret)
     (.seq (.reg [⟨some 17, .fa false 1 0 (.t 2), [], none⟩,
         ⟨some 18, .ld false 1 (.t 17), [], none⟩,
         ⟨some 19, .len (.t 18), [], none⟩,
         ⟨some 20, .ld false 1 (.t 3), [], none⟩,
         ⟨some 21, .len (.t 20), [], none⟩,
         ⟨some 22, .bin 0 .neq (.t 19) (.t 21), [], none⟩,
         ⟨some 16, .mv (.t 22), [], none⟩])
      (.seq (.live [2, 3, 16, 40, 41, 42]) (.cnd (.t 16) (.seq (.reg [⟨some 4, .mv (.c (.lit (.slice none 0 0))), [], none⟩,
           ⟨some 5, .mv (.c (.int .i64 3)), [], none⟩])
        .ret)
       .skip)))))))
  (.seq (.live [2, 3, 40, 41, 42]) (.seq (.seq (.reg [⟨some 23, .fa false 1 0 (.t 2), [], none⟩,
       ⟨some 24, .ld false 1 (.t 23), [], none⟩,
       ⟨some 25, .len (.t 24), [], none⟩,
       ⟨some 26, .mv (.c (.int .i64 0)), [], none⟩])
    (.seq (.live [2, 3, 24, 25, 26, 40, 41, 42]) (.blk 1 (.loop (.seq (.live [2, 3, 24, 25, 26, 40, 41, 42]) (.seq (.reg [⟨some 27, .bin 0 .lss (.t 26) (.t 25), [], none⟩])
       (.seq (.live [2, 3, 24, 25, 26, 27, 40, 41, 42]) (.seq (.cnd (.t 27) .skip
         (.exit 1))
        (.seq (.blk 2 (.seq (.reg [⟨some 28, .mv (.t 26), [], none⟩,
              ⟨some 29, .ia 1 (.t 24) (.t 26), [], none⟩,
              ⟨some 30, .ld false 1 (.t 29), [], none⟩,
              ⟨some 6, .new (.int .i64 0), [], none⟩,
              ⟨none, .st 1 (.t 6) (.t 28), [], none⟩,
              ⟨some 7, .mv (.t 30), [], none⟩])
           (.seq (.live [2, 3, 6, 7, 24, 25, 26, 40, 41, 42]) (.seq (.reg [⟨some 31, .mv (.t 7), [], none⟩,
               ⟨some 32, .len (.t 31), [], none⟩,
               ⟨some 33, .fa false 1 0 (.t 2), [], none⟩,
               ⟨some 34, .ld false 1 (.t 33), [], none⟩,
               ⟨some 35, .ia 1 (.t 34) (.c (.int .i64 0)), [], none⟩,
               ⟨some 36, .ld false 1 (.t 35), [], none⟩,
               ⟨some 37, .len (.t 36), [], none⟩,
               ⟨some 38, .bin 0 .neq (.t 32) (.t 37), [], none⟩,
               ⟨some 39, .mv (.t 38), [], none⟩,
               ⟨some 40, .mv (.t 7), [], some (39, false)⟩,
               ⟨some 41, .mkfn (.func 236) [] [.t 3, .t 6], [], some (39, false)⟩,
               ⟨some 42, .call (.c (.fn (.func 214) [] [])) [.t 40, .t 41], [], some (39, false)⟩,
               ⟨some 43, .pick (.t 39) (.c (.bool true)) (.t 42), [], none⟩])
            (.seq (.live [2, 3, 24, 25, 26, 40, 41, 42, 43]) (.cnd (.t 43) (.seq (.reg [⟨some 4, .mv (.c (.lit (.slice none 0 0))), [], none⟩,
                 ⟨some 5, .mv (.c (.int .i64 3)), [], none⟩])
              .ret)
             .skip))))))
         (.seq (.live [2, 3, 24, 25, 26, 40, 41, 42]) (.reg [⟨some 44, .bin 0 .add (.t 26) (.c (.int .i64 1)), [], none⟩,
            ⟨some 26, .mv (.t 44), [], none⟩])))))))))))
   (.seq (.live [2, 3]) (.seq (.reg [⟨some 45, .fa false 1 0 (.t 2), [], none⟩,
       ⟨some 46, .ld false 1 (.t 45), [], none⟩,
       ⟨some 47, .ia 1 (.t 46) (.c (.int .i64 0)), [], none⟩,
       ⟨some 48, .ld false 1 (.t 47), [], none⟩,
       ⟨some 49, .len (.t 48), [], none⟩,
       ⟨some 50, .mksl false 2 (.agg [.bool false, .lit (.slice none 0 0)]) 32 (.t 49) (.t 49), [], none⟩,
       ⟨some 8, .mv (.t 50), [], none⟩])
    (.seq (.live [2, 3, 8]) (.seq (.reg [⟨some 51, .ld false 1 (.t 3), [], none⟩,
        ⟨some 52, .len (.t 51), [], none⟩,
        ⟨some 53, .mksl true 1 (.int .u64 0) 8 (.t 52) (.t 52), [], none⟩,
        ⟨some 9, .mv (.t 53), [], none⟩])
     (.seq (.live [2, 3, 8, 9]) (.seq (.seq (.reg [⟨some 54, .mv (.t 8), [], none⟩,
          ⟨some 55, .len (.t 54), [], none⟩,
          ⟨some 56, .mv (.c (.int .i64 0)), [], none⟩])
       (.seq (.live [2, 3, 8, 9, 55, 56]) (.blk 3 (.loop (.seq (.live [2, 3, 8, 9, 55, 56]) (.seq (.reg [⟨some 57, .bin 0 .lss (.t 56) (.t 55), [], none⟩])
          (.seq (.live [2, 3, 8, 9, 55, 56, 57]) (.seq (.cnd (.t 57) .skip
            (.exit 3))
           (.seq (.blk 4 (.seq (.reg [⟨some 58, .mv (.t 56), [], none⟩,
                 ⟨some 10, .mv (.t 58), [], none⟩])
              (.seq (.live [2, 3, 8, 9, 10, 55, 56]) (.seq (.seq (.reg [⟨some 59, .ld false 1 (.t 3), [], none⟩,
                   ⟨some 60, .len (.t 59), [], none⟩,
                   ⟨some 61, .mv (.c (.int .i64 0)), [], none⟩])
                (.seq (.live [2, 3, 8, 9, 10, 55, 56, 60, 61]) (.blk 5 (.loop (.seq (.live [2, 3, 8, 9, 10, 55, 56, 60, 61]) (.seq (.reg [⟨some 62, .bin 0 .lss (.t 61) (.t 60), [], none⟩])
                   (.seq (.live [2, 3, 8, 9, 10, 55, 56, 60, 61, 62]) (.seq (.cnd (.t 62) .skip
                     (.exit 5))
                    (.seq (.blk 6 (.seq (.reg [⟨some 63, .mv (.t 61), [], none⟩,
                          ⟨some 11, .mv (.t 63), [], none⟩])
                       (.seq (.live [2, 3, 8, 9, 10, 11, 55, 56, 60, 61]) (.reg [⟨some 64, .mv (.t 9), [], none⟩,
                          ⟨some 65, .mv (.t 11), [], none⟩,
                          ⟨some 66, .fa false 1 0 (.t 2), [], none⟩,
                          ⟨some 67, .ld false 1 (.t 66), [], none⟩,
                          ⟨some 68, .mv (.t 11), [], none⟩,
                          ⟨some 69, .ia 1 (.t 67) (.t 68), [], none⟩,
                          ⟨some 70, .ld false 1 (.t 69), [], none⟩,
                          ⟨some 71, .mv (.t 10), [], none⟩,
                          ⟨some 72, .ia 1 (.t 70) (.t 71), [], none⟩,
                          ⟨some 73, .ld false 1 (.t 72), [], none⟩,
                          ⟨some 74, .ia 1 (.t 64) (.t 65), [], none⟩,
                          ⟨none, .st 1 (.t 74) (.t 73), [], none⟩]))))
                     (.seq (.live [2, 3, 8, 9, 10, 55, 56, 60, 61]) (.reg [⟨some 75, .bin 0 .add (.t 61) (.c (.int .i64 1)), [], none⟩,
                        ⟨some 61, .mv (.t 75), [], none⟩])))))))))))
               (.seq (.live [2, 3, 8, 9, 10, 55, 56]) (.reg [⟨some 76, .mv (.t 8), [], none⟩,
                  ⟨some 77, .mv (.t 10), [], none⟩,
                  ⟨some 78, .mv (.t 9), [], none⟩,
                  ⟨some 79, .ld false 1 (.t 3), [], none⟩,
                  ⟨some 80, .call (.c (.fn (.func 237) [] [])) [.t 78, .t 79], [], none⟩,
                  ⟨some 81, .ia 2 (.t 76) (.t 77), [], none⟩,
                  ⟨none, .st 2 (.t 81) (.t 80), [], none⟩]))))))
            (.seq (.live [2, 3, 8, 9, 55, 56]) (.reg [⟨some 82, .bin 0 .add (.t 56) (.c (.int .i64 1)), [], none⟩,
               ⟨some 56, .mv (.t 82), [], none⟩])))))))))))
      (.seq (.live [8]) (.seq (.reg [⟨some 83, .mv (.t 8), [], none⟩,
          ⟨some 4, .mv (.t 83), [], none⟩,
          ⟨some 5, .mv (.c (.int .i64 0)), [], none⟩])
       .ret))))))))))))) }

/-- arras/scale.each -/
def ir166 : IFn :=
 { nt := 43, res := [.cell 8 true 1, .t 9],
   body := (.seq (.reg [⟨some 4, .box 1 (.t 0), [], none⟩,
    ⟨some 8, .new (.agg [.lit (.slice none 0 0)]), [], none⟩,
    ⟨some 9, .mv (.c (.int .i64 0)), [], none⟩])
 (.seq (.live [1, 2, 3, 4, 8]) (.seq (.reg [⟨some 14, .ld true 1 (.t 4), [], none⟩,
     ⟨some 15, .mv (.t 1), [], none⟩,
     ⟨some 16, .call (.c (.fn (.func 216) [] [])) [.t 14, .t 15], [], none⟩,
     ⟨some 13, .mv (.t 16), [], none⟩,
     ⟨some 17, .ext (.t 13) 0, [], none⟩,
     ⟨some 18, .ext (.t 13) 1, [], none⟩,
     ⟨some 10, .mv (.t 17), [], none⟩,
     ⟨some 11, .mv (.t 18), [], none⟩])
  (.seq (.live [2, 3, 8, 10, 11]) (.seq (.seq (.reg [⟨some 19, .mv (.t 11), [], none⟩,
       ⟨some 20, .bin 0 .neq (.t 19) (.c (.int .i64 0)), [], none⟩])
    (.seq (.live [2, 3, 8, 10, 11, 20]) (.cnd (.t 20) (.seq (.reg [⟨some 21, .build [.lit (.slice none 0 0)] [], [], none⟩,
         ⟨some 22, .mv (.t 11), [], none⟩,
         ⟨none, .st 1 (.t 8) (.t 21), [], none⟩,
         ⟨some 9, .mv (.t 22), [], none⟩])
      .ret)
     .skip)))
   (.seq (.live [2, 3, 8, 10]) (.seq (.seq (.reg [⟨some 23, .mv (.t 10), [], none⟩,
        ⟨some 24, .len (.t 23), [], none⟩,
        ⟨some 25, .mv (.c (.int .i64 0)), [], none⟩])
     (.seq (.live [2, 3, 8, 10, 24, 25]) (.blk 0 (.loop (.seq (.live [2, 3, 8, 10, 24, 25]) (.seq (.reg [⟨some 26, .bin 0 .lss (.t 25) (.t 24), [], none⟩])
        (.seq (.live [2, 3, 8, 10, 24, 25, 26]) (.seq (.cnd (.t 26) .skip
          (.exit 0))
         (.seq (.blk 1 (.seq (.reg [⟨some 27, .mv (.t 25), [], none⟩,
               ⟨some 12, .mv (.t 27), [], none⟩])
            (.seq (.live [2, 3, 8, 10, 12, 24, 25]) (.reg [⟨some 28, .mv (.t 10), [], none⟩,
               ⟨some 29, .mv (.t 12), [], none⟩,
               ⟨some 30, .mv (.t 3), [], none⟩,
               ⟨some 31, .mv (.t 10), [], none⟩,
               ⟨some 32, .mv (.t 12), [], none⟩,
               ⟨some 33, .ia 2 (.t 31) (.t 32), [], none⟩,
               ⟨some 34, .ld true 2 (.t 33), [], none⟩,
               ⟨some 35, .call (.t 30) [.t 34], [], none⟩,
               ⟨some 36, .ia 2 (.t 28) (.t 29), [], none⟩,
               ⟨none, .st 2 (.t 36) (.t 35), [], none⟩]))))
          (.seq (.live [2, 3, 8, 10, 24, 25]) (.reg [⟨some 37, .bin 0 .add (.t 25) (.c (.int .i64 1)), [], none⟩,
             ⟨some 25, .mv (.t 37), [], none⟩])))))))))))
    (.seq (.live [2, 8, 10]) (.seq (.reg [⟨some 38, .mv (.t 10), [], none⟩,
        ⟨some 39, .mv (.t 2), [], none⟩,
        ⟨some 40, .call (.c (.fn (.func 66) [] [])) [.t 38, .t 39], [], none⟩,
        ⟨some 41, .ext (.t 40) 0, [], none⟩,
        ⟨some 42, .ext (.t 40) 1, [], none⟩,
        ⟨none, .st 1 (.t 8) (.t 41), [], none⟩,
        ⟨some 9, .mv (.t 42), [], none⟩])
     .ret))))))))) }

/-- arras/scale.same -/
def ir167 : IFn :=
 { nt := 4, res := [.cell 2 true 2],
   body := (.seq (.reg [⟨some 1, .box 2 (.t 0), [], none⟩,
    ⟨some 2, .new (.agg [.bool false, .lit (.slice none 0 0)]), [], none⟩])
 (.seq (.live [1, 2]) (.seq (.reg [⟨some 3, .ld true 2 (.t 1), [], none⟩,
     ⟨none, .st 2 (.t 2) (.t 3), [], none⟩])
  .ret))) }
end Go.AM
