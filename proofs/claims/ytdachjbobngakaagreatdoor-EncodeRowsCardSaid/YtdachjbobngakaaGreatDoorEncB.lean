/-
  The compiled form of the other functions that the law reaches, each proved to be what the compiler gives for the program's function. No conditions.
-/
import Derived.Test.YtdachjbobngakaaGreatDoorProg
import Derived.Test.YtdachjbobngakaaGreatDoorEncA
namespace Go.Proofs
open Go Go.Abs
/-- Function 52. -/
def AF52 : AF := ⟨44, [],
 (.seq
  (.seq
   (.reg [
     .op (some 5) none .mv [.t 1],
     .op (some 6) none .mv [.c (.int .i64 0)]])
   (.block 0
    (.loop
     (.seq
      (.reg [
        .op (some 7) none (.bin .lss) [.t 6, .t 5]])
      (.seq
       (.cond (.t 7)
        .skip
        (.exit 0))
       (.seq
        (.block 1
         (.seq
          (.reg [
            .op (some 8) none .mv [.t 6],
            .op (some 4) none .mv [.t 8]])
          (.seq
           (.reg [
             .op (some 9) none .mv [.t 0],
             .op (some 10) none .nilck [.t 9],
             .op (some 11) none (.faddr 2) [.t 10],
             .op (some 12) none (.load 1 false) [.t 11],
             .op (some 13) none (.bin .add) [.t 12, .c (.int .i64 1)],
             .op (some 14) none .nilck [.t 9],
             .op (some 15) none (.faddr 2) [.t 14],
             .op none none (.store 1) [.t 15, .t 13]])
           (.seq
            (.reg [
              .op (some 16) none .mv [.t 0],
              .op (some 17) none .nilck [.t 16],
              .op (some 18) none (.faddr 0) [.t 17],
              .op (some 19) none (.load 1 false) [.t 18],
              .op (some 20) none .mv [.t 4],
              .op (some 21) none .idxs [.t 19, .t 20],
              .op (some 22) none (.bin .eql) [.t 21, .c (.int .u8 10)]])
            (.cond (.t 22)
             (.reg [
               .op (some 23) none .mv [.t 0],
               .op (some 24) none .mv [.t 0],
               .op (some 25) none .mv [.t 0],
               .op (some 26) none .nilck [.t 25],
               .op (some 27) none (.faddr 1) [.t 26],
               .op (some 28) none (.load 1 false) [.t 27],
               .op (some 29) none (.bin .add) [.t 28, .c (.int .i64 1)],
               .op (some 30) none .nilck [.t 23],
               .op (some 31) none (.faddr 1) [.t 30],
               .op none none (.store 1) [.t 31, .t 29],
               .op (some 32) none .nilck [.t 24],
               .op (some 33) none (.faddr 2) [.t 32],
               .op none none (.store 1) [.t 33, .c (.int .i64 1)]])
             .skip)))))
        (.reg [
          .op (some 34) none (.bin .add) [.t 6, .c (.int .i64 1)],
          .op (some 6) none .mv [.t 34]])))))))
  (.reg [
    .op (some 35) none .mv [.t 0],
    .op (some 36) none .mv [.t 0],
    .op (some 37) none .nilck [.t 36],
    .op (some 38) none (.faddr 0) [.t 37],
    .op (some 39) none (.load 1 false) [.t 38],
    .op (some 40) none .mv [.t 1],
    .op (some 41) none (.sstr true false) [.t 39, .t 40],
    .op (some 42) none .nilck [.t 35],
    .op (some 43) none (.faddr 0) [.t 42],
    .op none none (.store 1) [.t 43, .t 41]]))⟩
set_option maxRecDepth 100000 in
theorem af52 : compF Tryz.prog 52 = some AF52 := by kernel_rfl

/-- Function 95. -/
def AF95 : AF := ⟨6, [.tmp 2],
 (.seq
  (.reg [
    .op (some 2) none .mv [.c (.bool false)]])
  (.seq
   (.reg [
     .op (some 3) none .mv [.t 0],
     .call (some 4) none 96 [.c (.str [32, 9, 13, 10]), .t 3],
     .op (some 5) none (.bin .geq) [.t 4, .c (.int .i64 0)],
     .op (some 2) none .mv [.t 5]])
   .ret))⟩
set_option maxRecDepth 100000 in
theorem af95 : compF Tryz.prog 95 = some AF95 := by kernel_rfl

/-- Function 96. -/
def AF96 : AF := ⟨8, [.tmp 4],
 (.seq
  (.reg [
    .op (some 4) none .mv [.c (.int .i64 0)]])
  (.seq
   (.reg [
     .op (some 5) none .mv [.t 0],
     .op (some 6) none .mv [.t 1],
     .call (some 7) none 151 [.t 5, .t 6],
     .op (some 4) none .mv [.t 7]])
   .ret))⟩
set_option maxRecDepth 100000 in
theorem af96 : compF Tryz.prog 96 = some AF96 := by kernel_rfl

/-- Function 151. -/
def AF151 : AF := ⟨8, [.tmp 4],
 (.seq
  (.reg [
    .op (some 4) none .mv [.c (.int .i64 0)]])
  (.seq
   (.reg [
     .op (some 5) none .mv [.t 0],
     .op (some 6) none .mv [.t 1],
     .op (some 7) none .ibs [.t 5, .t 6],
     .op (some 4) none .mv [.t 7]])
   .ret))⟩
set_option maxRecDepth 100000 in
theorem af151 : compF Tryz.prog 151 = some AF151 := by kernel_rfl

/-- Function 94. -/
def AF94 : AF := ⟨20, [.tmp 4],
 (.seq
  (.reg [
    .op (some 4) none .mv [.c (.int .i64 0)]])
  (.seq
   (.reg [
     .op (some 5) none .mv [.c (.int .i64 0)]])
   (.seq
    (.block 0
     (.loop
      (.seq
       (.seq
        (.reg [
          .op (some 6) none .mv [.t 5],
          .op (some 7) none .mv [.t 0],
          .op (some 8) none .slen [.t 7],
          .op (some 9) none (.bin .lss) [.t 6, .t 8],
          .op (some 10) none .mv [.t 9],
          .op (some 11) (some (10, true)) .mv [.t 1],
          .op (some 12) (some (10, true)) .mv [.t 0],
          .op (some 13) (some (10, true)) .mv [.t 5],
          .op (some 14) (some (10, true)) .idxs [.t 12, .t 13],
          .dyn (some 15) (some (10, true)) (.t 11) [.t 14],
          .op (some 16) none .pick [.t 10, .t 15, .c (.bool false)]])
        (.cond (.t 16)
         .skip
         (.exit 0)))
       (.block 1
        (.reg [
          .op (some 17) none .mv [.t 5],
          .op (some 18) none (.bin .add) [.t 17, .c (.int .i64 1)],
          .op (some 5) none .mv [.t 18]])))))
    (.seq
     (.reg [
       .op (some 19) none .mv [.t 5],
       .op (some 4) none .mv [.t 19]])
     .ret))))⟩
set_option maxRecDepth 100000 in
theorem af94 : compF Tryz.prog 94 = some AF94 := by kernel_rfl

/-- Function 98. -/
def AF98 : AF := ⟨9, [.tmp 2],
 (.seq
  (.reg [
    .op (some 2) none .mv [.c (.bool false)]])
  (.seq
   (.reg [
     .op (some 3) none .mv [.t 0],
     .call (some 4) none 154 [.t 3],
     .op (some 5) none .mv [.t 4],
     .op (some 6) (some (5, false)) .mv [.t 0],
     .call (some 7) (some (5, false)) 155 [.t 6],
     .op (some 8) none .pick [.t 5, .c (.bool true), .t 7],
     .op (some 2) none .mv [.t 8]])
   .ret))⟩
set_option maxRecDepth 100000 in
theorem af98 : compF Tryz.prog 98 = some AF98 := by kernel_rfl

/-- Function 154. -/
def AF154 : AF := ⟨21, [.tmp 2],
 (.seq
  (.reg [
    .op (some 2) none .mv [.c (.bool false)]])
  (.seq
   (.reg [
     .op (some 3) none .mv [.t 0],
     .op (some 4) none (.bin .geq) [.t 3, .c (.int .u8 97)],
     .op (some 5) none .mv [.t 4],
     .op (some 6) (some (5, true)) .mv [.t 0],
     .op (some 7) (some (5, true)) (.bin .leq) [.t 6, .c (.int .u8 122)],
     .op (some 8) none .pick [.t 5, .t 7, .c (.bool false)],
     .op (some 9) none .mv [.t 8],
     .op (some 10) (some (9, false)) .mv [.t 0],
     .op (some 11) (some (9, false)) (.bin .geq) [.t 10, .c (.int .u8 65)],
     .op (some 12) (some (9, false)) .mv [.t 11],
     .op (some 13) (some (12, true)) .mv [.t 0],
     .op (some 14) (some (12, true)) (.bin .leq) [.t 13, .c (.int .u8 90)],
     .op (some 15) (some (9, false)) .pick [.t 12, .t 14, .c (.bool false)],
     .op (some 16) none .pick [.t 9, .c (.bool true), .t 15],
     .op (some 17) none .mv [.t 16],
     .op (some 18) (some (17, false)) .mv [.t 0],
     .op (some 19) (some (17, false)) (.bin .eql) [.t 18, .c (.int .u8 95)],
     .op (some 20) none .pick [.t 17, .c (.bool true), .t 19],
     .op (some 2) none .mv [.t 20]])
   .ret))⟩
set_option maxRecDepth 100000 in
theorem af154 : compF Tryz.prog 154 = some AF154 := by kernel_rfl

/-- Function 155. -/
def AF155 : AF := ⟨9, [.tmp 2],
 (.seq
  (.reg [
    .op (some 2) none .mv [.c (.bool false)]])
  (.seq
   (.reg [
     .op (some 3) none .mv [.t 0],
     .op (some 4) none (.bin .geq) [.t 3, .c (.int .u8 48)],
     .op (some 5) none .mv [.t 4],
     .op (some 6) (some (5, true)) .mv [.t 0],
     .op (some 7) (some (5, true)) (.bin .leq) [.t 6, .c (.int .u8 57)],
     .op (some 8) none .pick [.t 5, .t 7, .c (.bool false)],
     .op (some 2) none .mv [.t 8]])
   .ret))⟩
set_option maxRecDepth 100000 in
theorem af155 : compF Tryz.prog 155 = some AF155 := by kernel_rfl

/-- Function 103. -/
def AF103 : AF := ⟨31, [.cell 2 145],
 (.seq
  (.reg [
    .op (some 2) none .box [.c (.agg [(.int .i64 0), (.str []), (.int .i64 0), (.int .i64 0), (.int .i64 0)])]])
  (.seq
   (.seq
    (.draw [
      .op (some 3) none .mv [.t 0],
      .op (some 4) none .nilck [.t 3],
      .op (some 5) none (.faddr 2) [.t 4],
      .op (some 6) none (.load 1 false) [.t 5],
      .op (some 7) none (.nileq 0 true) [.t 6],
      .op (some 8) none .mv [.t 7],
      .op (some 9) (some (8, false)) .mv [.t 0],
      .op (some 10) (some (8, false)) .nilck [.t 9],
      .op (some 11) (some (8, false)) (.faddr 1) [.t 10],
      .op (some 12) (some (8, false)) (.load 1 false) [.t 11],
      .op (some 13) (some (8, false)) .mv [.t 0],
      .op (some 14) (some (8, false)) .nilck [.t 13],
      .op (some 15) (some (8, false)) (.faddr 0) [.t 14],
      .op (some 16) (some (8, false)) (.load 1 false) [.t 15],
      .op (some 17) (some (8, false)) .len [.t 16],
      .op (some 18) (some (8, false)) (.bin .geq) [.t 12, .t 17],
      .op (some 19) none .pick [.t 8, .c (.bool true), .t 18]]
      [[], [0], [1, 0], [2, 1, 0], [3, 2, 1, 0], [4, 3, 2, 1, 0], [5, 4, 3, 2, 1, 0], [6, 5, 4, 3, 2, 1, 0], [7, 6, 5, 4, 3, 2, 1, 0], [8, 7, 6, 5, 4, 3, 2, 1, 0], [5, 4, 3, 2, 1, 0], [10, 5, 4, 3, 2, 1, 0], [11, 10, 5, 4, 3, 2, 1, 0], [12, 11, 10, 5, 4, 3, 2, 1, 0], [13, 12, 11, 10, 5, 4, 3, 2, 1, 0], [9, 8, 7, 6, 14, 13, 12, 11, 10, 5, 4, 3, 2, 1, 0], [15, 9, 8, 7, 6, 14, 13, 12, 11, 10, 5, 4, 3, 2, 1, 0]])
    (.cond (.t 19)
     (.seq
      (.reg [
        .op (some 20) none (.bld [(.int .i64 0), (.str []), (.int .i64 0), (.int .i64 0), (.int .i64 0)] []) [],
        .op none none (.store 5) [.t 2, .t 20]])
      .ret)
     .skip))
   (.seq
    (.draw [
      .op (some 21) none .mv [.t 0],
      .op (some 22) none .nilck [.t 21],
      .op (some 23) none (.faddr 0) [.t 22],
      .op (some 24) none (.load 1 false) [.t 23],
      .op (some 25) none .mv [.t 0],
      .op (some 26) none .nilck [.t 25],
      .op (some 27) none (.faddr 1) [.t 26],
      .op (some 28) none (.load 1 false) [.t 27],
      .op (some 29) none (.idxa 5) [.t 24, .t 28],
      .op (some 30) none (.load 5 true) [.t 29],
      .op none none (.store 5) [.t 2, .t 30]]
      [[], [0], [1, 0], [2, 1, 0], [], [4], [5, 4], [6, 5, 4], [3, 2, 1, 0, 7, 6, 5, 4], [8, 3, 2, 1, 0, 7, 6, 5, 4], [9, 8, 3, 2, 1, 0, 7, 6, 5, 4]])
    .ret)))⟩
set_option maxRecDepth 100000 in
theorem af103 : compF Tryz.prog 103 = some AF103 := by kernel_rfl

/-- Function 106. -/
def AF106 : AF := ⟨20, [.tmp 6],
 (.seq
  (.reg [
    .op (some 6) none .mv [.c (.bool false)]])
  (.seq
   (.reg [
     .op (some 8) none .mv [.t 0],
     .call (some 9) none 103 [.t 8],
     .op (some 7) none .box [.c (.agg [(.int .i64 0), (.str []), (.int .i64 0), (.int .i64 0), (.int .i64 0)])],
     .op none none (.store 5) [.t 7, .t 9]])
   (.seq
    (.reg [
      .op (some 10) none (.faddr 0) [.t 7],
      .op (some 11) none (.load 1 false) [.t 10],
      .op (some 12) none .mv [.t 1],
      .op (some 13) none (.bin .eql) [.t 11, .t 12],
      .op (some 14) none .mv [.t 13],
      .op (some 15) (some (14, true)) (.faddr 1) [.t 7],
      .op (some 16) (some (14, true)) (.load 1 false) [.t 15],
      .op (some 17) (some (14, true)) .mv [.t 2],
      .op (some 18) (some (14, true)) (.bin .eql) [.t 16, .t 17],
      .op (some 19) none .pick [.t 14, .t 18, .c (.bool false)],
      .op (some 6) none .mv [.t 19]])
    .ret)))⟩
set_option maxRecDepth 100000 in
theorem af106 : compF Tryz.prog 106 = some AF106 := by kernel_rfl

/-- Function 54. -/
def AF54 : AF := ⟨19, [.tmp 6],
 (.seq
  (.reg [
    .op (some 6) none .mv [.c (.bool false)]])
  (.seq
   (.seq
    (.reg [
      .op (some 7) none .mv [.t 0],
      .op (some 8) none .mv [.t 1],
      .op (some 9) none .mv [.t 2],
      .call (some 10) none 106 [.t 7, .t 8, .t 9],
      .op (some 11) none (.un .not) [.t 10]])
    (.cond (.t 11)
     (.seq
      (.reg [
        .op (some 6) none .mv [.c (.bool false)]])
      .ret)
     .skip))
   (.seq
    (.reg [
      .op (some 12) none .mv [.t 0],
      .op (some 13) none .nilck [.t 12],
      .op (some 14) none (.faddr 1) [.t 13],
      .op (some 15) none (.load 1 false) [.t 14],
      .op (some 16) none (.bin .add) [.t 15, .c (.int .i64 1)],
      .op (some 17) none .nilck [.t 12],
      .op (some 18) none (.faddr 1) [.t 17],
      .op none none (.store 1) [.t 18, .t 16]])
    (.seq
     (.reg [
       .op (some 6) none .mv [.c (.bool true)]])
     .ret))))⟩
set_option maxRecDepth 100000 in
theorem af54 : compF Tryz.prog 54 = some AF54 := by kernel_rfl

/-- Function 55. -/
def AF55 : AF := ⟨8, [.tmp 4],
 (.seq
  (.reg [
    .op (some 4) none .mv [.c (.bool false)]])
  (.seq
   (.reg [
     .op (some 5) none .mv [.t 0],
     .op (some 6) none .mv [.t 1],
     .call (some 7) none 54 [.t 5, .c (.int .i64 1), .t 6],
     .op (some 4) none .mv [.t 7]])
   .ret))⟩
set_option maxRecDepth 100000 in
theorem af55 : compF Tryz.prog 55 = some AF55 := by kernel_rfl

/-- Function 152. -/
def AF152 : AF := ⟨8, [.tmp 4],
 (.seq
  (.reg [
    .op (some 4) none .mv [.c (.bool false)]])
  (.seq
   (.reg [
     .op (some 5) none .mv [.t 0],
     .op (some 6) none .mv [.t 1],
     .call (some 7) none 199 [.t 5, .t 6],
     .op (some 4) none .mv [.t 7]])
   .ret))⟩
set_option maxRecDepth 100000 in
theorem af152 : compF Tryz.prog 152 = some AF152 := by kernel_rfl

/-- Function 199. -/
def AF199 : AF := ⟨18, [.tmp 4],
 (.seq
  (.reg [
    .op (some 4) none .mv [.c (.bool false)]])
  (.seq
   (.reg [
     .op (some 5) none .mv [.t 0],
     .op (some 6) none .slen [.t 5],
     .op (some 7) none .mv [.t 1],
     .op (some 8) none .slen [.t 7],
     .op (some 9) none (.bin .geq) [.t 6, .t 8],
     .op (some 10) none .mv [.t 9],
     .op (some 11) (some (10, true)) .mv [.t 0],
     .op (some 12) (some (10, true)) .mv [.t 1],
     .op (some 13) (some (10, true)) .slen [.t 12],
     .op (some 14) (some (10, true)) (.sstr false true) [.t 11, .t 13],
     .op (some 15) (some (10, true)) .mv [.t 1],
     .op (some 16) (some (10, true)) (.bin .eql) [.t 14, .t 15],
     .op (some 17) none .pick [.t 10, .t 16, .c (.bool false)],
     .op (some 4) none .mv [.t 17]])
   .ret))⟩
set_option maxRecDepth 100000 in
theorem af199 : compF Tryz.prog 199 = some AF199 := by kernel_rfl

/-- Function 10. -/
def AF10 : AF := ⟨19, [.cell 2 26, .tmp 3],
 (.seq
  (.reg [
    .op (some 2) none .box [.c (.agg [(.raw (.slice none 0 0)), (.raw (.slice none 0 0))])],
    .op (some 3) none .mv [.c (.raw .nilIface)]])
  (.seq
   (.reg [
     .op (some 7) none .mv [.t 0],
     .call (some 8) none 12 [.t 7],
     .op (some 6) none .mv [.t 8],
     .op (some 9) none (.ext 0) [.t 6],
     .op (some 10) none (.ext 1) [.t 6],
     .op (some 4) none .box [.c (.agg [(.str []), (.raw (.slice none 0 0)), (.raw (.slice none 0 0))])],
     .op none none (.store 3) [.t 4, .t 9],
     .op (some 5) none .mv [.t 10]])
   (.seq
    (.seq
     (.reg [
       .op (some 11) none .mv [.t 5],
       .op (some 12) none (.nileq 0 true) [.t 11]])
     (.cond (.t 12)
      (.seq
       (.reg [
         .op (some 13) none (.bld [(.raw (.slice none 0 0)), (.raw (.slice none 0 0))] []) [],
         .op (some 14) none .mv [.t 5],
         .op none none (.store 2) [.t 2, .t 13],
         .op (some 3) none .mv [.t 14]])
       .ret)
      .skip))
    (.seq
     (.reg [
       .op (some 15) none (.load 3 true) [.t 4],
       .call (some 16) none 13 [.t 15],
       .op (some 17) none (.ext 0) [.t 16],
       .op (some 18) none (.ext 1) [.t 16],
       .op none none (.store 2) [.t 2, .t 17],
       .op (some 3) none .mv [.t 18]])
     .ret))))⟩
set_option maxRecDepth 100000 in
theorem af10 : compF Tryz.prog 10 = some AF10 := by kernel_rfl

/-- Function 12. -/
def AF12 : AF := ⟨19, [.cell 2 47, .tmp 3],
 (.seq
  (.reg [
    .op (some 2) none .box [.c (.agg [(.str []), (.raw (.slice none 0 0)), (.raw (.slice none 0 0))])],
    .op (some 3) none .mv [.c (.raw .nilIface)]])
  (.seq
   (.reg [
     .op (some 7) none .mv [.t 0],
     .call (some 8) none 28 [.t 7],
     .op (some 6) none .mv [.t 8],
     .op (some 9) none (.ext 0) [.t 6],
     .op (some 10) none (.ext 1) [.t 6],
     .op (some 4) none .mv [.t 9],
     .op (some 5) none .mv [.t 10]])
   (.seq
    (.seq
     (.reg [
       .op (some 11) none .mv [.t 5],
       .op (some 12) none (.nileq 0 true) [.t 11]])
     (.cond (.t 12)
      (.seq
       (.reg [
         .op (some 13) none (.bld [(.str []), (.raw (.slice none 0 0)), (.raw (.slice none 0 0))] []) [],
         .op (some 14) none .mv [.t 5],
         .op none none (.store 3) [.t 2, .t 13],
         .op (some 3) none .mv [.t 14]])
       .ret)
      .skip))
    (.seq
     (.reg [
       .op (some 15) none .mv [.t 4],
       .call (some 16) none 29 [.t 15],
       .op (some 17) none (.ext 0) [.t 16],
       .op (some 18) none (.ext 1) [.t 16],
       .op none none (.store 3) [.t 2, .t 17],
       .op (some 3) none .mv [.t 18]])
     .ret))))⟩
set_option maxRecDepth 100000 in
theorem af12 : compF Tryz.prog 12 = some AF12 := by kernel_rfl

/-- Function 13. -/
def AF13 : AF := ⟨56, [.cell 2 26, .tmp 3],
 (.seq
  (.reg [
    .op (some 1) none .box [.t 0],
    .op (some 2) none .box [.c (.agg [(.raw (.slice none 0 0)), (.raw (.slice none 0 0))])],
    .op (some 3) none .mv [.c (.raw .nilIface)]])
  (.seq
   (.reg [
     .op (some 12) none (.load 3 true) [.t 1],
     .call (some 13) none 30 [.t 12],
     .op (some 11) none .mv [.t 13],
     .op (some 14) none (.ext 0) [.t 11],
     .op (some 15) none (.ext 1) [.t 11],
     .op (some 4) none .mv [.t 14],
     .op (some 5) none .mv [.t 15]])
   (.seq
    (.seq
     (.reg [
       .op (some 16) none .mv [.t 5],
       .op (some 17) none (.nileq 0 true) [.t 16]])
     (.cond (.t 17)
      (.seq
       (.reg [
         .op (some 18) none (.bld [(.raw (.slice none 0 0)), (.raw (.slice none 0 0))] []) [],
         .op (some 19) none .mv [.t 5],
         .op none none (.store 2) [.t 2, .t 18],
         .op (some 3) none .mv [.t 19]])
       .ret)
      .skip))
    (.seq
     (.reg [
       .op (some 20) none .mv [.t 4],
       .op (some 21) none (.bld [(.raw (.pointer none)), (.raw (.slice none 0 0)), (.raw (.slice none 0 0)), (.raw (.slice none 0 0))] [(0, 1)]) [.t 20],
       .op (some 22) none .box [.t 21],
       .op (some 6) none .mv [.t 22]])
     (.seq
      (.seq
       (.reg [
         .op (some 23) none .mv [.t 6],
         .op (some 24) none (.faddr 0) [.t 1],
         .op (some 25) none (.load 1 false) [.t 24],
         .op (some 26) none (.faddr 2) [.t 1],
         .op (some 27) none (.load 1 false) [.t 26],
         .op (some 28) none (.faddr 1) [.t 1],
         .op (some 29) none (.load 1 false) [.t 28],
         .call (some 30) none 31 [.t 23, .t 25, .t 27, .t 29],
         .op (some 7) none .mv [.t 30]])
       (.seq
        (.reg [
          .op (some 31) none .mv [.t 7],
          .op (some 32) none (.nileq 0 true) [.t 31]])
        (.cond (.t 32)
         (.seq
          (.reg [
            .op (some 33) none (.bld [(.raw (.slice none 0 0)), (.raw (.slice none 0 0))] []) [],
            .op (some 34) none .mv [.t 7],
            .op none none (.store 2) [.t 2, .t 33],
            .op (some 3) none .mv [.t 34]])
          .ret)
         .skip)))
      (.seq
       (.seq
        (.reg [
          .op (some 35) none .mv [.t 6],
          .op (some 36) none .nilck [.t 35],
          .op (some 37) none (.faddr 3) [.t 36],
          .op (some 38) none (.load 1 false) [.t 37],
          .op (some 39) none .len [.t 38],
          .op (some 40) none .mv [.c (.int .i64 0)]])
        (.block 0
         (.loop
          (.seq
           (.reg [
             .op (some 41) none (.bin .lss) [.t 40, .t 39]])
           (.seq
            (.cond (.t 41)
             .skip
             (.exit 0))
            (.seq
             (.block 1
              (.seq
               (.reg [
                 .op (some 42) none (.idxa 11) [.t 38, .t 40],
                 .op (some 43) none (.load 11 true) [.t 42],
                 .op (some 9) none .box [.c (.agg [(.int .i64 0), (.str []), (.str []), (.str []), (.str []), (.int .i64 0), (.int .i64 0), (.int .i64 0), (.int .i64 0), (.int .i64 0), (.int .i64 0)])],
                 .op none none (.store 11) [.t 9, .t 43]])
               (.seq
                (.reg [
                  .op (some 44) none .mv [.t 6],
                  .op (some 45) none (.load 11 true) [.t 9],
                  .call (some 46) none 32 [.t 44, .t 45],
                  .op (some 10) none .mv [.t 46]])
                (.seq
                 (.reg [
                   .op (some 47) none .mv [.t 10],
                   .op (some 48) none (.nileq 0 true) [.t 47]])
                 (.cond (.t 48)
                  (.seq
                   (.reg [
                     .op (some 49) none (.bld [(.raw (.slice none 0 0)), (.raw (.slice none 0 0))] []) [],
                     .op (some 50) none .mv [.t 10],
                     .op none none (.store 2) [.t 2, .t 49],
                     .op (some 3) none .mv [.t 50]])
                   .ret)
                  .skip)))))
             (.reg [
               .op (some 51) none (.bin .add) [.t 40, .c (.int .i64 1)],
               .op (some 40) none .mv [.t 51]])))))))
       (.seq
        (.reg [
          .op (some 52) none .mv [.t 6],
          .op (some 53) none .nilck [.t 52],
          .op (some 54) none (.faddr 1) [.t 53],
          .op (some 55) none (.load 2 true) [.t 54],
          .op none none (.store 2) [.t 2, .t 55],
          .op (some 3) none .mv [.c (.raw .nilIface)]])
        .ret)))))))⟩
set_option maxRecDepth 100000 in
theorem af13 : compF Tryz.prog 13 = some AF13 := by kernel_rfl

/-- Function 16. -/
def AF16 : AF := ⟨41, [.tmp 0],
 (.seq
  (.reg [
    .op (some 0) none .mv [.c (.bool false)]])
  (.seq
   (.reg [
     .call (some 6) none 10 [.c (.str [115, 121, 110, 116, 97, 120, 32, 61, 32, 39, 112, 114, 111, 116, 111, 51, 39, 59, 32, 109, 101, 115, 115, 97, 103, 101, 32, 65, 32, 123, 32, 105, 110, 116, 51, 50, 32, 120, 32, 61, 32, 49, 59, 32, 125])],
     .op (some 5) none .mv [.t 6],
     .op (some 7) none (.ext 0) [.t 5],
     .op (some 8) none (.ext 1) [.t 5],
     .op (some 1) none .box [.c (.agg [(.raw (.slice none 0 0)), (.raw (.slice none 0 0))])],
     .op none none (.store 2) [.t 1, .t 7],
     .op (some 2) none .mv [.t 8]])
   (.seq
    (.reg [
      .op (some 10) none (.load 2 true) [.t 1],
      .op (some 11) none (.bld [(.int .i64 0), (.int .u64 0), (.str []), (.raw (.slice none 0 0)), (.str []), (.raw (.slice none 0 0)), (.raw (.slice none 0 0))] [(0, 1), (1, 1)]) [.c (.int .i64 1), .c (.int .u64 1)],
      .op (some 12) none (.bld [(.int .i64 0), (.int .i64 0), (.int .u64 0), (.str []), (.raw (.slice none 0 0)), (.str []), (.raw (.slice none 0 0)), (.raw (.slice none 0 0))] [(0, 1), (1, 7)]) [.c (.int .i64 1), .t 11],
      .op (some 13) none (.lit 117 8) [.t 12],
      .op (some 14) none (.bld [(.int .i64 0), (.int .u64 0), (.str []), (.raw (.slice none 0 0)), (.str []), (.raw (.slice none 0 0)), (.raw (.slice none 0 0))] [(0, 1), (3, 1)]) [.c (.int .i64 3), .t 13],
      .call (some 15) none 35 [.t 10, .c (.int .i64 0), .t 14],
      .op (some 9) none .mv [.t 15],
      .op (some 16) none (.ext 0) [.t 9],
      .op (some 17) none (.ext 1) [.t 9],
      .op (some 3) none .mv [.t 16],
      .op (some 4) none .mv [.t 17]])
    (.seq
     (.reg [
       .op (some 18) none .mv [.t 2],
       .op (some 19) none (.nileq 0 false) [.t 18],
       .op (some 20) none .mv [.t 19],
       .op (some 21) (some (20, true)) .mv [.t 4],
       .op (some 22) (some (20, true)) (.nileq 0 false) [.t 21],
       .op (some 23) none .pick [.t 20, .t 22, .c (.bool false)],
       .op (some 24) none .mv [.t 23],
       .op (some 25) (some (24, true)) .mv [.t 3],
       .op (some 26) (some (24, true)) .len [.t 25],
       .op (some 27) (some (24, true)) (.bin .eql) [.t 26, .c (.int .i64 2)],
       .op (some 28) none .pick [.t 24, .t 27, .c (.bool false)],
       .op (some 29) none .mv [.t 28],
       .op (some 30) (some (29, true)) .mv [.t 3],
       .op (some 31) (some (29, true)) (.idxa 1) [.t 30, .c (.int .i64 0)],
       .op (some 32) (some (29, true)) (.load 1 false) [.t 31],
       .op (some 33) (some (29, true)) (.bin .eql) [.t 32, .c (.int .u8 8)],
       .op (some 34) none .pick [.t 29, .t 33, .c (.bool false)],
       .op (some 35) none .mv [.t 34],
       .op (some 36) (some (35, true)) .mv [.t 3],
       .op (some 37) (some (35, true)) (.idxa 1) [.t 36, .c (.int .i64 1)],
       .op (some 38) (some (35, true)) (.load 1 false) [.t 37],
       .op (some 39) (some (35, true)) (.bin .eql) [.t 38, .c (.int .u8 1)],
       .op (some 40) none .pick [.t 35, .t 39, .c (.bool false)],
       .op (some 0) none .mv [.t 40]])
     .ret))))⟩
set_option maxRecDepth 100000 in
theorem af16 : compF Tryz.prog 16 = some AF16 := by kernel_rfl

/-- Function 28. -/
def AF28 : AF := ⟨80, [.tmp 2, .tmp 3],
 (.seq
  (.reg [
    .op (some 2) none .mv [.c (.raw (.slice none 0 0))],
    .op (some 3) none .mv [.c (.raw .nilIface)]])
  (.seq
   (.seq
    (.reg [
      .op (some 9) none .mv [.t 0],
      .op (some 10) none .slen [.t 9],
      .op (some 11) none (.bin .gtr) [.t 10, .c (.int .i64 4000)]])
    (.cond (.t 11)
     (.seq
      (.draw [
        .op (some 12) none (.load 1 false) [.g 0],
        .op (some 13) none (.bld [(.int .i64 0), (.int .i64 0), (.raw .nilIface)] [(2, 1)]) [.t 12],
        .op (some 14) none .boxs [.t 13],
        .op (some 15) none (.mkif 138) [.t 14],
        .op (some 2) none .mv [.c (.raw (.slice none 0 0))],
        .op (some 3) none .mv [.t 15]]
        [[], [0], [1, 0], [2, 1, 0], [], [3, 2, 1, 0, 4]])
      .ret)
     .skip))
   (.seq
    (.reg [
      .op (some 16) none .mv [.t 0],
      .op (some 17) none (.bld [(.str []), (.int .i64 0), (.int .i64 0)] [(0, 1), (1, 1), (2, 1)]) [.t 16, .c (.int .i64 1), .c (.int .i64 1)],
      .op (some 18) none .box [.t 17],
      .op (some 4) none .mv [.t 18]])
    (.seq
     (.reg [
       .op (some 5) none .mv [.c (.raw (.slice none 0 0))]])
     (.block 0
      (.loop
       (.block 1
        (.seq
         (.seq
          (.reg [
            .op (some 19) none .mv [.t 4],
            .call (some 20) none 50 [.t 19],
            .op (some 21) none (.un .not) [.t 20]])
          (.cond (.t 21)
           (.seq
            (.draw [
              .op (some 22) none .mv [.t 4],
              .op (some 23) none .nilck [.t 22],
              .op (some 24) none (.faddr 1) [.t 23],
              .op (some 25) none (.load 1 false) [.t 24],
              .op (some 26) none .mv [.t 4],
              .op (some 27) none .nilck [.t 26],
              .op (some 28) none (.faddr 2) [.t 27],
              .op (some 29) none (.load 1 false) [.t 28],
              .op (some 30) none (.load 1 false) [.g 1],
              .op (some 31) none (.bld [(.int .i64 0), (.int .i64 0), (.raw .nilIface)] [(0, 1), (1, 1), (2, 1)]) [.t 25, .t 29, .t 30],
              .op (some 32) none .boxs [.t 31],
              .op (some 33) none (.mkif 138) [.t 32],
              .op (some 2) none .mv [.c (.raw (.slice none 0 0))],
              .op (some 3) none .mv [.t 33]]
              [[], [0], [1, 0], [2, 1, 0], [], [4], [5, 4], [6, 5, 4], [], [3, 2, 1, 0, 7, 6, 5, 4, 8], [9, 3, 2, 1, 0, 7, 6, 5, 4, 8], [10, 9, 3, 2, 1, 0, 7, 6, 5, 4, 8], [], [11, 10, 9, 3, 2, 1, 0, 7, 6, 5, 4, 8, 12]])
            .ret)
           .skip))
         (.seq
          (.seq
           (.reg [
             .op (some 34) none .mv [.t 4],
             .op (some 35) none .nilck [.t 34],
             .op (some 36) none (.faddr 0) [.t 35],
             .op (some 37) none (.load 1 false) [.t 36],
             .op (some 38) none (.bin .eql) [.t 37, .c (.str [])]])
           (.cond (.t 38)
            (.seq
             (.reg [
               .op (some 39) none .mv [.t 5],
               .op (some 2) none .mv [.t 39],
               .op (some 3) none .mv [.c (.raw .nilIface)]])
             .ret)
            .skip))
          (.seq
           (.reg [
             .op (some 41) none .mv [.t 4],
             .op (some 42) none .nilck [.t 41],
             .op (some 43) none (.faddr 0) [.t 42],
             .op (some 44) none (.load 1 false) [.t 43],
             .call (some 45) none 51 [.t 44],
             .op (some 40) none .mv [.t 45],
             .op (some 46) none (.ext 0) [.t 40],
             .op (some 47) none (.ext 1) [.t 40],
             .op (some 48) none (.ext 2) [.t 40],
             .op (some 6) none .box [.c (.agg [(.int .i64 0), (.str []), (.int .i64 0), (.int .i64 0), (.int .i64 0)])],
             .op none none (.store 5) [.t 6, .t 46],
             .op (some 7) none .mv [.t 47],
             .op (some 8) none .mv [.t 48]])
           (.seq
            (.seq
             (.reg [
               .op (some 49) none .mv [.t 8],
               .op (some 50) none (.nileq 0 true) [.t 49]])
             (.cond (.t 50)
              (.seq
               (.draw [
                 .op (some 51) none .mv [.t 4],
                 .op (some 52) none .nilck [.t 51],
                 .op (some 53) none (.faddr 1) [.t 52],
                 .op (some 54) none (.load 1 false) [.t 53],
                 .op (some 55) none .mv [.t 4],
                 .op (some 56) none .nilck [.t 55],
                 .op (some 57) none (.faddr 2) [.t 56],
                 .op (some 58) none (.load 1 false) [.t 57],
                 .op (some 59) none .mv [.t 8],
                 .op (some 60) none (.bld [(.int .i64 0), (.int .i64 0), (.raw .nilIface)] [(0, 1), (1, 1), (2, 1)]) [.t 54, .t 58, .t 59],
                 .op (some 61) none .boxs [.t 60],
                 .op (some 62) none (.mkif 138) [.t 61],
                 .op (some 2) none .mv [.c (.raw (.slice none 0 0))],
                 .op (some 3) none .mv [.t 62]]
                 [[], [0], [1, 0], [2, 1, 0], [], [4], [5, 4], [6, 5, 4], [], [3, 2, 1, 0, 7, 6, 5, 4, 8], [9, 3, 2, 1, 0, 7, 6, 5, 4, 8], [10, 9, 3, 2, 1, 0, 7, 6, 5, 4, 8], [], [11, 10, 9, 3, 2, 1, 0, 7, 6, 5, 4, 8, 12]])
               .ret)
              .skip))
            (.seq
             (.draw [
               .op (some 63) none .mv [.t 4],
               .op (some 64) none .nilck [.t 63],
               .op (some 65) none (.faddr 1) [.t 64],
               .op (some 66) none (.load 1 false) [.t 65],
               .op (some 67) none .mv [.t 4],
               .op (some 68) none .nilck [.t 67],
               .op (some 69) none (.faddr 2) [.t 68],
               .op (some 70) none (.load 1 false) [.t 69],
               .op (some 71) none (.faddr 3) [.t 6],
               .op none none (.store 1) [.t 71, .t 66],
               .op (some 72) none (.faddr 4) [.t 6],
               .op none none (.store 1) [.t 72, .t 70]]
               [[], [0], [1, 0], [2, 1, 0], [], [4], [5, 4], [6, 5, 4], [3, 2, 1, 0], [8, 3, 2, 1, 0], [7, 6, 5, 4, 9, 8, 3, 2, 1, 0], [10, 7, 6, 5, 4, 9, 8, 3, 2, 1, 0]])
             (.seq
              (.reg [
                .op (some 73) none .mv [.t 5],
                .op (some 74) none (.load 5 true) [.t 6],
                .op (some 75) none (.lit 145 5) [.t 74],
                .op (some 76) none (.app 145 5 48) [.t 73, .t 75],
                .op (some 5) none .mv [.t 76]])
              (.reg [
                .op (some 77) none .mv [.t 4],
                .op (some 78) none .mv [.t 7],
                .call (some 79) none 52 [.t 77, .t 78]]))))))))))))))⟩
set_option maxRecDepth 100000 in
theorem af28 : compF Tryz.prog 28 = some AF28 := by kernel_rfl

/-- Function 29. -/
def AF29 : AF := ⟨62, [.cell 2 47, .tmp 3],
 (.seq
  (.reg [
    .op (some 2) none .box [.c (.agg [(.str []), (.raw (.slice none 0 0)), (.raw (.slice none 0 0))])],
    .op (some 3) none .mv [.c (.raw .nilIface)]])
  (.seq
   (.reg [
     .op (some 6) none .mv [.t 0],
     .op (some 7) none (.bld [(.raw (.slice none 0 0)), (.int .i64 0), (.raw .nilIface)] [(0, 1)]) [.t 6],
     .op (some 8) none .box [.t 7],
     .op (some 4) none .mv [.t 8]])
   (.seq
    (.reg [
      .op (some 9) none .mv [.t 4],
      .call (some 10) none 53 [.t 9],
      .op (some 11) none (.bld [(.str []), (.raw (.slice none 0 0)), (.raw (.slice none 0 0))] [(0, 1)]) [.t 10],
      .op (some 5) none .box [.c (.agg [(.str []), (.raw (.slice none 0 0)), (.raw (.slice none 0 0))])],
      .op none none (.store 3) [.t 5, .t 11]])
    (.seq
     (.block 0
      (.loop
       (.seq
        (.seq
         (.reg [
           .op (some 12) none .mv [.t 4],
           .op (some 13) none .nilck [.t 12],
           .op (some 14) none (.faddr 2) [.t 13],
           .op (some 15) none (.load 1 false) [.t 14],
           .op (some 16) none (.nileq 0 false) [.t 15],
           .op (some 17) none .mv [.t 16],
           .op (some 18) (some (17, true)) .mv [.t 4],
           .op (some 19) (some (17, true)) .nilck [.t 18],
           .op (some 20) (some (17, true)) (.faddr 1) [.t 19],
           .op (some 21) (some (17, true)) (.load 1 false) [.t 20],
           .op (some 22) (some (17, true)) .mv [.t 0],
           .op (some 23) (some (17, true)) .len [.t 22],
           .op (some 24) (some (17, true)) (.bin .lss) [.t 21, .t 23],
           .op (some 25) none .pick [.t 17, .t 24, .c (.bool false)]])
         (.cond (.t 25)
          .skip
          (.exit 0)))
        (.block 1
         (.block 2
          (.seq
           (.reg [
             .op (some 29) none .mv [.t 4],
             .call (some 30) none 54 [.t 29, .c (.int .i64 4), .c (.str [59])],
             .op (some 28) none .mv [.t 30]])
           (.cond (.t 28)
            .skip
            (.seq
             (.reg [
               .op (some 32) none .mv [.t 4],
               .call (some 33) none 55 [.t 32, .c (.str [109, 101, 115, 115, 97, 103, 101])],
               .op (some 31) none .mv [.t 33]])
             (.cond (.t 31)
              (.draw [
                .op (some 34) none (.faddr 1) [.t 5],
                .op (some 35) none (.load 1 false) [.t 34],
                .op (some 36) none .mv [.t 4],
                .call (some 37) none 56 [.t 36, .c (.int .i64 0)],
                .op (some 38) none (.lit 157 9) [.t 37],
                .op (some 39) none (.app 157 9 176) [.t 35, .t 38],
                .op (some 40) none (.faddr 1) [.t 5],
                .op none none (.store 1) [.t 40, .t 39]]
                [[], [0], [], [2], [3, 2], [1, 0, 4, 3, 2], [5, 1, 0, 4, 3, 2], [6, 5, 1, 0, 4, 3, 2]])
              (.seq
               (.reg [
                 .op (some 42) none .mv [.t 4],
                 .call (some 43) none 55 [.t 42, .c (.str [101, 110, 117, 109])],
                 .op (some 41) none .mv [.t 43]])
               (.cond (.t 41)
                (.draw [
                  .op (some 44) none (.faddr 2) [.t 5],
                  .op (some 45) none (.load 1 false) [.t 44],
                  .op (some 46) none .mv [.t 4],
                  .call (some 47) none 57 [.t 46],
                  .op (some 48) none (.lit 161 4) [.t 47],
                  .op (some 49) none (.app 161 4 56) [.t 45, .t 48],
                  .op (some 50) none (.faddr 2) [.t 5],
                  .op none none (.store 1) [.t 50, .t 49]]
                  [[], [0], [], [2], [3, 2], [1, 0, 4, 3, 2], [5, 1, 0, 4, 3, 2], [6, 5, 1, 0, 4, 3, 2]])
                (.reg [
                  .op (some 26) none .mv [.t 4],
                  .call (some 27) none 58 [.t 26]]))))))))))))
     (.seq
      (.seq
       (.reg [
         .op (some 51) none .mv [.t 4],
         .op (some 52) none .nilck [.t 51],
         .op (some 53) none (.faddr 2) [.t 52],
         .op (some 54) none (.load 1 false) [.t 53],
         .op (some 55) none (.nileq 0 true) [.t 54]])
       (.cond (.t 55)
        (.seq
         (.draw [
           .op (some 56) none (.bld [(.str []), (.raw (.slice none 0 0)), (.raw (.slice none 0 0))] []) [],
           .op (some 57) none .mv [.t 4],
           .op (some 58) none .nilck [.t 57],
           .op (some 59) none (.faddr 2) [.t 58],
           .op (some 60) none (.load 1 false) [.t 59],
           .op none none (.store 3) [.t 2, .t 56],
           .op (some 3) none .mv [.t 60]]
           [[], [], [1], [2, 1], [3, 2, 1], [0], [4, 3, 2, 1, 5, 0]])
         .ret)
        .skip))
      (.seq
       (.reg [
         .op (some 61) none (.load 3 true) [.t 5],
         .op none none (.store 3) [.t 2, .t 61],
         .op (some 3) none .mv [.c (.raw .nilIface)]])
       .ret))))))⟩
set_option maxRecDepth 100000 in
theorem af29 : compF Tryz.prog 29 = some AF29 := by kernel_rfl

/-- Function 30. -/
def AF30 : AF := ⟨29, [.tmp 2, .tmp 3],
 (.seq
  (.reg [
    .op (some 1) none .box [.t 0],
    .op (some 2) none .mv [.c (.raw (.pointer none))],
    .op (some 3) none .mv [.c (.raw .nilIface)]])
  (.seq
   (.reg [
     .op (some 7) none .mkmap [],
     .op (some 8) none (.bld [(.raw (.slice none 0 0)), (.raw (.map none)), (.int .i64 0), (.int .i64 0)] [(1, 1)]) [.t 7],
     .op (some 9) none .box [.t 8],
     .op (some 4) none .mv [.t 9]])
   (.seq
    (.seq
     (.reg [
       .op (some 10) none .mv [.t 4],
       .op (some 11) none (.faddr 0) [.t 1],
       .op (some 12) none (.load 1 false) [.t 11],
       .op (some 13) none (.faddr 2) [.t 1],
       .op (some 14) none (.load 1 false) [.t 13],
       .call (some 15) none 59 [.t 10, .t 12, .t 14],
       .op (some 5) none .mv [.t 15]])
     (.seq
      (.reg [
        .op (some 16) none .mv [.t 5],
        .op (some 17) none (.nileq 0 true) [.t 16]])
      (.cond (.t 17)
       (.seq
        (.reg [
          .op (some 18) none .mv [.t 5],
          .op (some 2) none .mv [.c (.raw (.pointer none))],
          .op (some 3) none .mv [.t 18]])
        .ret)
       .skip)))
    (.seq
     (.seq
      (.reg [
        .op (some 19) none .mv [.t 4],
        .op (some 20) none (.faddr 0) [.t 1],
        .op (some 21) none (.load 1 false) [.t 20],
        .op (some 22) none (.faddr 1) [.t 1],
        .op (some 23) none (.load 1 false) [.t 22],
        .call (some 24) none 60 [.t 19, .t 21, .t 23],
        .op (some 6) none .mv [.t 24]])
      (.seq
       (.reg [
         .op (some 25) none .mv [.t 6],
         .op (some 26) none (.nileq 0 true) [.t 25]])
       (.cond (.t 26)
        (.seq
         (.reg [
           .op (some 27) none .mv [.t 6],
           .op (some 2) none .mv [.c (.raw (.pointer none))],
           .op (some 3) none .mv [.t 27]])
         .ret)
        .skip)))
     (.seq
      (.reg [
        .op (some 28) none .mv [.t 4],
        .op (some 2) none .mv [.t 28],
        .op (some 3) none .mv [.c (.raw .nilIface)]])
      .ret)))))⟩
set_option maxRecDepth 100000 in
theorem af30 : compF Tryz.prog 30 = some AF30 := by kernel_rfl

/-- Function 31. -/
def AF31 : AF := ⟨42, [.tmp 8],
 (.seq
  (.reg [
    .op (some 8) none .mv [.c (.raw .nilIface)]])
  (.seq
   (.seq
    (.reg [
      .op (some 15) none .mv [.t 2],
      .op (some 16) none .len [.t 15],
      .op (some 17) none .mv [.c (.int .i64 0)]])
    (.block 0
     (.loop
      (.seq
       (.reg [
         .op (some 18) none (.bin .lss) [.t 17, .t 16]])
       (.seq
        (.cond (.t 18)
         .skip
         (.exit 0))
        (.seq
         (.block 1
          (.seq
           (.reg [
             .op (some 19) none (.idxa 4) [.t 15, .t 17],
             .op (some 20) none (.load 4 true) [.t 19],
             .op (some 10) none .box [.c (.agg [(.str []), (.raw (.slice none 0 0)), (.int .i64 0), (.int .i64 0)])],
             .op none none (.store 4) [.t 10, .t 20]])
           (.seq
            (.reg [
              .op (some 21) none .mv [.t 0],
              .op (some 22) none (.load 4 true) [.t 10],
              .call (some 23) none 61 [.t 21, .t 22],
              .op (some 11) none .mv [.t 23]])
            (.seq
             (.reg [
               .op (some 24) none .mv [.t 11],
               .op (some 25) none (.nileq 0 true) [.t 24]])
             (.cond (.t 25)
              (.seq
               (.reg [
                 .op (some 26) none .mv [.t 11],
                 .op (some 8) none .mv [.t 26]])
               .ret)
              .skip)))))
         (.reg [
           .op (some 27) none (.bin .add) [.t 17, .c (.int .i64 1)],
           .op (some 17) none .mv [.t 27]])))))))
   (.seq
    (.seq
     (.reg [
       .op (some 28) none .mv [.t 3],
       .op (some 29) none .len [.t 28],
       .op (some 30) none .mv [.c (.int .i64 0)]])
     (.block 2
      (.loop
       (.seq
        (.reg [
          .op (some 31) none (.bin .lss) [.t 30, .t 29]])
        (.seq
         (.cond (.t 31)
          .skip
          (.exit 2))
         (.seq
          (.block 3
           (.seq
            (.reg [
              .op (some 32) none (.idxa 9) [.t 28, .t 30],
              .op (some 33) none (.load 9 true) [.t 32],
              .op (some 13) none .box [.c (.agg [(.str []), (.raw (.slice none 0 0)), (.raw (.slice none 0 0)), (.raw (.slice none 0 0)), (.raw (.slice none 0 0)), (.raw (.slice none 0 0)), (.raw (.slice none 0 0)), (.int .i64 0), (.int .i64 0)])],
              .op none none (.store 9) [.t 13, .t 33]])
            (.seq
             (.reg [
               .op (some 34) none .mv [.t 0],
               .op (some 35) none .mv [.t 1],
               .op (some 36) none (.load 9 true) [.t 13],
               .call (some 37) none 62 [.t 34, .t 35, .t 36],
               .op (some 14) none .mv [.t 37]])
             (.seq
              (.reg [
                .op (some 38) none .mv [.t 14],
                .op (some 39) none (.nileq 0 true) [.t 38]])
              (.cond (.t 39)
               (.seq
                (.reg [
                  .op (some 40) none .mv [.t 14],
                  .op (some 8) none .mv [.t 40]])
                .ret)
               .skip)))))
          (.reg [
            .op (some 41) none (.bin .add) [.t 30, .c (.int .i64 1)],
            .op (some 30) none .mv [.t 41]])))))))
    (.seq
     (.reg [
       .op (some 8) none .mv [.c (.raw .nilIface)]])
     .ret))))⟩
set_option maxRecDepth 100000 in
theorem af31 : compF Tryz.prog 31 = some AF31 := by kernel_rfl

/-- Function 35. -/
def AF35 : AF := ⟨37, [.tmp 6, .tmp 7],
 (.seq
  (.reg [
    .op (some 3) none .box [.t 0],
    .op (some 5) none .box [.t 2],
    .op (some 6) none .mv [.c (.raw (.slice none 0 0))],
    .op (some 7) none .mv [.c (.raw .nilIface)]])
  (.seq
   (.seq
    (.reg [
      .op (some 10) none (.load 2 true) [.t 3],
      .op (some 11) none .mv [.t 1],
      .op (some 12) none (.load 7 true) [.t 5],
      .call (some 13) none 71 [.t 10, .t 11, .t 12],
      .op (some 8) none .mv [.t 13]])
    (.seq
     (.reg [
       .op (some 14) none .mv [.t 8],
       .op (some 15) none (.nileq 0 true) [.t 14]])
     (.cond (.t 15)
      (.seq
       (.reg [
         .op (some 16) none .mv [.t 8],
         .op (some 6) none .mv [.c (.raw (.slice none 0 0))],
         .op (some 7) none .mv [.t 16]])
       .ret)
      .skip)))
   (.seq
    (.reg [
      .op (some 17) none (.load 2 true) [.t 3],
      .op (some 18) none (.bld [(.raw (.slice none 0 0)), (.raw (.slice none 0 0)), (.raw (.slice none 0 0)), (.raw .nilIface)] [(0, 2)]) [.t 17],
      .op (some 19) none .box [.t 18],
      .op (some 9) none .mv [.t 19]])
    (.seq
     (.reg [
       .op (some 20) none .mv [.t 9],
       .op (some 21) none .mv [.t 1],
       .op (some 22) none (.load 7 true) [.t 5],
       .call (some 23) none 72 [.t 20, .t 21, .t 22]])
     (.seq
      (.seq
       (.reg [
         .op (some 24) none .mv [.t 9],
         .op (some 25) none .nilck [.t 24],
         .op (some 26) none (.faddr 3) [.t 25],
         .op (some 27) none (.load 1 false) [.t 26],
         .op (some 28) none (.nileq 0 true) [.t 27]])
       (.cond (.t 28)
        (.seq
         (.draw [
           .op (some 29) none .mv [.t 9],
           .op (some 30) none .nilck [.t 29],
           .op (some 31) none (.faddr 3) [.t 30],
           .op (some 32) none (.load 1 false) [.t 31],
           .op (some 6) none .mv [.c (.raw (.slice none 0 0))],
           .op (some 7) none .mv [.t 32]]
           [[], [0], [1, 0], [2, 1, 0], [], [3, 2, 1, 0, 4]])
         .ret)
        .skip))
      (.seq
       (.reg [
         .op (some 33) none .mv [.t 9],
         .op (some 34) none .nilck [.t 33],
         .op (some 35) none (.faddr 2) [.t 34],
         .op (some 36) none (.load 1 false) [.t 35],
         .op (some 6) none .mv [.t 36],
         .op (some 7) none .mv [.c (.raw .nilIface)]])
       .ret))))))⟩
set_option maxRecDepth 100000 in
theorem af35 : compF Tryz.prog 35 = some AF35 := by kernel_rfl

/-- Function 50. -/
def AF50 : AF := ⟨30, [.tmp 2],
 (.seq
  (.reg [
    .op (some 2) none .mv [.c (.bool false)]])
  (.block 0
   (.loop
    (.block 1
     (.seq
      (.reg [
        .op (some 6) none .mv [.t 0],
        .op (some 7) none .nilck [.t 6],
        .op (some 8) none (.faddr 0) [.t 7],
        .op (some 9) none (.load 1 false) [.t 8],
        .call (some 10) none 94 [.t 9, .c (.fn (.func 95) [] [])],
        .op (some 3) none .mv [.t 10]])
      (.seq
       (.reg [
         .op (some 11) none .mv [.t 0],
         .op (some 12) none .mv [.t 3],
         .call (some 13) none 52 [.t 11, .t 12]])
       (.seq
        (.reg [
          .op (some 15) none .mv [.t 0],
          .call (some 16) none 97 [.t 15],
          .op (some 14) none .mv [.t 16],
          .op (some 17) none (.ext 0) [.t 14],
          .op (some 18) none (.ext 1) [.t 14],
          .op (some 4) none .mv [.t 17],
          .op (some 5) none .mv [.t 18]])
        (.seq
         (.reg [
           .op (some 19) none .mv [.t 5],
           .op (some 20) none (.un .not) [.t 19],
           .op (some 21) none .mv [.t 20],
           .op (some 22) (some (21, false)) .mv [.t 3],
           .op (some 23) (some (21, false)) (.bin .eql) [.t 22, .c (.int .i64 0)],
           .op (some 24) (some (21, false)) .mv [.t 23],
           .op (some 25) (some (24, true)) .mv [.t 4],
           .op (some 26) (some (24, true)) (.un .not) [.t 25],
           .op (some 27) (some (21, false)) .pick [.t 24, .t 26, .c (.bool false)],
           .op (some 28) none .pick [.t 21, .c (.bool true), .t 27]])
         (.cond (.t 28)
          (.seq
           (.reg [
             .op (some 29) none .mv [.t 5],
             .op (some 2) none .mv [.t 29]])
           .ret)
          .skip)))))))))⟩
set_option maxRecDepth 100000 in
theorem af50 : compF Tryz.prog 50 = some AF50 := by kernel_rfl

/-- Function 51. -/
def AF51 : AF := ⟨34, [.cell 2 145, .tmp 3, .tmp 4],
 (.seq
  (.reg [
    .op (some 2) none .box [.c (.agg [(.int .i64 0), (.str []), (.int .i64 0), (.int .i64 0), (.int .i64 0)])],
    .op (some 3) none .mv [.c (.int .i64 0)],
    .op (some 4) none .mv [.c (.raw .nilIface)]])
  (.seq
   (.seq
    (.reg [
      .op (some 6) none .mv [.t 0],
      .op (some 7) none .idxs [.t 6, .c (.int .i64 0)],
      .op (some 5) none .mv [.t 7]])
    (.block 0
     (.seq
      (.reg [
        .op (some 9) none .mv [.t 5],
        .call (some 10) none 98 [.t 9],
        .op (some 8) none .mv [.t 10]])
      (.cond (.t 8)
       (.seq
        (.reg [
          .op (some 11) none .mv [.t 0],
          .call (some 12) none 99 [.t 11],
          .op (some 13) none (.ext 0) [.t 12],
          .op (some 14) none (.ext 1) [.t 12],
          .op (some 15) none (.ext 2) [.t 12],
          .op none none (.store 5) [.t 2, .t 13],
          .op (some 3) none .mv [.t 14],
          .op (some 4) none .mv [.t 15]])
        .ret)
       (.seq
        (.reg [
          .op (some 17) none .mv [.t 5],
          .call (some 18) none 96 [.c (.str [34, 39]), .t 17],
          .op (some 19) none (.bin .geq) [.t 18, .c (.int .i64 0)],
          .op (some 16) none .mv [.t 19]])
        (.cond (.t 16)
         (.seq
          (.reg [
            .op (some 20) none .mv [.t 0],
            .call (some 21) none 100 [.t 20],
            .op (some 22) none (.ext 0) [.t 21],
            .op (some 23) none (.ext 1) [.t 21],
            .op (some 24) none (.ext 2) [.t 21],
            .op none none (.store 5) [.t 2, .t 22],
            .op (some 3) none .mv [.t 23],
            .op (some 4) none .mv [.t 24]])
          .ret)
         (.seq
          (.reg [
            .op (some 26) none .mv [.t 5],
            .call (some 27) none 96 [.c (.str [123, 125, 91, 93, 60, 62, 40, 41, 59, 61, 44, 46, 45]), .t 26],
            .op (some 28) none (.bin .geq) [.t 27, .c (.int .i64 0)],
            .op (some 25) none .mv [.t 28]])
          (.cond (.t 25)
           (.seq
            (.reg [
              .op (some 29) none .mv [.t 0],
              .op (some 30) none (.sstr false true) [.t 29, .c (.int .i64 1)],
              .op (some 31) none (.bld [(.int .i64 0), (.str []), (.int .i64 0), (.int .i64 0), (.int .i64 0)] [(0, 1), (1, 1)]) [.c (.int .i64 4), .t 30],
              .op none none (.store 5) [.t 2, .t 31],
              .op (some 3) none .mv [.c (.int .i64 1)],
              .op (some 4) none .mv [.c (.raw .nilIface)]])
            .ret)
           .skip))))))))
   (.seq
    (.draw [
      .op (some 32) none (.bld [(.int .i64 0), (.str []), (.int .i64 0), (.int .i64 0), (.int .i64 0)] []) [],
      .op (some 33) none (.load 1 false) [.g 1],
      .op none none (.store 5) [.t 2, .t 32],
      .op (some 3) none .mv [.c (.int .i64 0)],
      .op (some 4) none .mv [.t 33]]
      [[], [], [0], [2, 0], [1, 3, 2, 0]])
    .ret)))⟩
set_option maxRecDepth 100000 in
theorem af51 : compF Tryz.prog 51 = some AF51 := by kernel_rfl

/-- Function 53. -/
def AF53 : AF := ⟨31, [.tmp 2],
 (.seq
  (.reg [
    .op (some 2) none .mv [.c (.str [])]])
  (.seq
   (.reg [
     .op (some 4) none .mv [.t 0],
     .call (some 5) none 101 [.t 4, .c (.str [115, 121, 110, 116, 97, 120])]])
   (.seq
    (.reg [
      .op (some 6) none .mv [.t 0],
      .call (some 7) none 102 [.t 6, .c (.str [61])]])
    (.seq
     (.seq
      (.reg [
        .op (some 8) none .mv [.t 0],
        .call (some 9) none 103 [.t 8],
        .op (some 3) none .box [.c (.agg [(.int .i64 0), (.str []), (.int .i64 0), (.int .i64 0), (.int .i64 0)])],
        .op none none (.store 5) [.t 3, .t 9]])
      (.seq
       (.reg [
         .op (some 10) none (.faddr 0) [.t 3],
         .op (some 11) none (.load 1 false) [.t 10],
         .op (some 12) none (.bin .neq) [.t 11, .c (.int .i64 3)],
         .op (some 13) none .mv [.t 12],
         .op (some 14) (some (13, false)) (.faddr 1) [.t 3],
         .op (some 15) (some (13, false)) (.load 1 false) [.t 14],
         .op (some 16) (some (13, false)) (.bin .neq) [.t 15, .c (.str [112, 114, 111, 116, 111, 51])],
         .op (some 17) none .pick [.t 13, .c (.bool true), .t 16]])
       (.cond (.t 17)
        (.reg [
          .op (some 18) none .mv [.t 0],
          .call (some 19) none 58 [.t 18]])
        .skip)))
     (.seq
      (.reg [
        .op (some 20) none .mv [.t 0],
        .call (some 21) none 104 [.t 20, .c (.int .i64 3)]])
      (.seq
       (.reg [
         .op (some 22) none .mv [.t 0],
         .call (some 23) none 102 [.t 22, .c (.str [59])]])
       (.seq
        (.seq
         (.reg [
           .op (some 24) none .mv [.t 0],
           .call (some 25) none 55 [.t 24, .c (.str [112, 97, 99, 107, 97, 103, 101])]])
         (.cond (.t 25)
          (.seq
           (.reg [
             .op (some 26) none .mv [.t 0],
             .call (some 27) none 105 [.t 26],
             .op (some 2) none .mv [.t 27]])
           (.reg [
             .op (some 28) none .mv [.t 0],
             .call (some 29) none 102 [.t 28, .c (.str [59])]]))
          .skip))
        (.seq
         (.reg [
           .op (some 30) none .mv [.t 2],
           .op (some 2) none .mv [.t 30]])
         .ret))))))))⟩
set_option maxRecDepth 100000 in
theorem af53 : compF Tryz.prog 53 = some AF53 := by kernel_rfl

/-- Function 56. -/
def AF56 : AF := ⟨44, [.cell 4 157],
 (.seq
  (.reg [
    .op (some 4) none .box [.c (.agg [(.str []), (.raw (.slice none 0 0)), (.raw (.slice none 0 0)), (.raw (.slice none 0 0)), (.raw (.slice none 0 0)), (.raw (.slice none 0 0)), (.raw (.slice none 0 0)), (.int .i64 0), (.int .i64 0)])]])
  (.seq
   (.reg [
     .op (some 7) none .mv [.t 0],
     .call (some 8) none 107 [.t 7],
     .op (some 5) none .box [.c (.agg [(.int .i64 0), (.str []), (.int .i64 0), (.int .i64 0), (.int .i64 0)])],
     .op none none (.store 5) [.t 5, .t 8]])
   (.seq
    (.reg [
      .op (some 9) none (.faddr 1) [.t 5],
      .op (some 10) none (.load 1 false) [.t 9],
      .op (some 11) none (.faddr 3) [.t 5],
      .op (some 12) none (.load 1 false) [.t 11],
      .op (some 13) none (.faddr 4) [.t 5],
      .op (some 14) none (.load 1 false) [.t 13],
      .op (some 15) none (.bld [(.str []), (.raw (.slice none 0 0)), (.raw (.slice none 0 0)), (.raw (.slice none 0 0)), (.raw (.slice none 0 0)), (.raw (.slice none 0 0)), (.raw (.slice none 0 0)), (.int .i64 0), (.int .i64 0)] [(0, 1), (7, 1), (8, 1)]) [.t 10, .t 12, .t 14],
      .op (some 6) none .box [.c (.agg [(.str []), (.raw (.slice none 0 0)), (.raw (.slice none 0 0)), (.raw (.slice none 0 0)), (.raw (.slice none 0 0)), (.raw (.slice none 0 0)), (.raw (.slice none 0 0)), (.int .i64 0), (.int .i64 0)])],
      .op none none (.store 9) [.t 6, .t 15]])
    (.seq
     (.seq
      (.reg [
        .op (some 16) none .mv [.t 0],
        .op (some 17) none .nilck [.t 16],
        .op (some 18) none (.faddr 2) [.t 17],
        .op (some 19) none (.load 1 false) [.t 18],
        .op (some 20) none (.nileq 0 false) [.t 19],
        .op (some 21) none .mv [.t 20],
        .op (some 22) (some (21, true)) .mv [.t 1],
        .op (some 23) (some (21, true)) (.bin .geq) [.t 22, .c (.int .i64 8)],
        .op (some 24) none .pick [.t 21, .t 23, .c (.bool false)]])
      (.cond (.t 24)
       (.reg [
         .op (some 25) none .mv [.t 0],
         .op (some 26) none (.faddr 3) [.t 5],
         .op (some 27) none (.load 1 false) [.t 26],
         .op (some 28) none (.faddr 4) [.t 5],
         .op (some 29) none (.load 1 false) [.t 28],
         .op (some 30) none (.load 1 false) [.g 3],
         .op (some 31) none (.bld [(.int .i64 0), (.int .i64 0), (.raw .nilIface)] [(0, 1), (1, 1), (2, 1)]) [.t 27, .t 29, .t 30],
         .op (some 32) none .boxs [.t 31],
         .op (some 33) none (.mkif 138) [.t 32],
         .op (some 34) none .nilck [.t 25],
         .op (some 35) none (.faddr 2) [.t 34],
         .op none none (.store 1) [.t 35, .t 33]])
       .skip))
     (.seq
      (.reg [
        .op (some 36) none .mv [.t 0],
        .call (some 37) none 102 [.t 36, .c (.str [123])]])
      (.seq
       (.block 0
        (.loop
         (.seq
          (.seq
           (.reg [
             .op (some 38) none .mv [.t 0],
             .call (some 39) none 108 [.t 38]])
           (.cond (.t 39)
            .skip
            (.exit 0)))
          (.block 1
           (.reg [
             .op (some 40) none .mv [.t 0],
             .op (some 41) none .mv [.t 1],
             .call (some 42) none 109 [.t 40, .t 6, .t 41]])))))
       (.seq
        (.reg [
          .op (some 43) none (.load 9 true) [.t 6],
          .op none none (.store 9) [.t 4, .t 43]])
        .ret)))))))⟩
set_option maxRecDepth 100000 in
theorem af56 : compF Tryz.prog 56 = some AF56 := by kernel_rfl

/-- Function 59. -/
def AF59 : AF := ⟨33, [.tmp 6],
 (.seq
  (.reg [
    .op (some 6) none .mv [.c (.raw .nilIface)]])
  (.seq
   (.seq
    (.reg [
      .op (some 11) none .mv [.t 2],
      .op (some 12) none .len [.t 11],
      .op (some 13) none .mv [.c (.int .i64 0)]])
    (.block 0
     (.loop
      (.seq
       (.reg [
         .op (some 14) none (.bin .lss) [.t 13, .t 12]])
       (.seq
        (.cond (.t 14)
         .skip
         (.exit 0))
        (.seq
         (.block 1
          (.seq
           (.reg [
             .op (some 15) none (.idxa 4) [.t 11, .t 13],
             .op (some 16) none (.load 4 true) [.t 15],
             .op (some 8) none .box [.c (.agg [(.str []), (.raw (.slice none 0 0)), (.int .i64 0), (.int .i64 0)])],
             .op none none (.store 4) [.t 8, .t 16]])
           (.seq
            (.reg [
              .op (some 18) none .mv [.t 0],
              .op (some 19) none .mv [.t 1],
              .op (some 20) none (.faddr 0) [.t 8],
              .op (some 21) none (.load 1 false) [.t 20],
              .op (some 22) none (.faddr 2) [.t 8],
              .op (some 23) none (.load 1 false) [.t 22],
              .op (some 24) none (.faddr 3) [.t 8],
              .op (some 25) none (.load 1 false) [.t 24],
              .call (some 26) none 111 [.t 18, .t 19, .t 21, .c (.bool true), .t 23, .t 25],
              .op (some 17) none .mv [.t 26],
              .op (some 27) none (.ext 0) [.t 17],
              .op (some 28) none (.ext 1) [.t 17],
              .op (some 9) none .mv [.t 27],
              .op (some 10) none .mv [.t 28]])
            (.seq
             (.reg [
               .op (some 29) none .mv [.t 10],
               .op (some 30) none (.nileq 0 true) [.t 29]])
             (.cond (.t 30)
              (.seq
               (.reg [
                 .op (some 31) none .mv [.t 10],
                 .op (some 6) none .mv [.t 31]])
               .ret)
              .skip)))))
         (.reg [
           .op (some 32) none (.bin .add) [.t 13, .c (.int .i64 1)],
           .op (some 13) none .mv [.t 32]])))))))
   (.seq
    (.reg [
      .op (some 6) none .mv [.c (.raw .nilIface)]])
    .ret)))⟩
set_option maxRecDepth 100000 in
theorem af59 : compF Tryz.prog 59 = some AF59 := by kernel_rfl

/-- Function 60. -/
def AF60 : AF := ⟨51, [.tmp 6],
 (.seq
  (.reg [
    .op (some 6) none .mv [.c (.raw .nilIface)]])
  (.seq
   (.seq
    (.reg [
      .op (some 13) none .mv [.t 2],
      .op (some 14) none .len [.t 13],
      .op (some 15) none .mv [.c (.int .i64 0)]])
    (.block 0
     (.loop
      (.seq
       (.reg [
         .op (some 16) none (.bin .lss) [.t 15, .t 14]])
       (.seq
        (.cond (.t 16)
         .skip
         (.exit 0))
        (.seq
         (.block 1
          (.seq
           (.reg [
             .op (some 17) none (.idxa 9) [.t 13, .t 15],
             .op (some 18) none (.load 9 true) [.t 17],
             .op (some 8) none .box [.c (.agg [(.str []), (.raw (.slice none 0 0)), (.raw (.slice none 0 0)), (.raw (.slice none 0 0)), (.raw (.slice none 0 0)), (.raw (.slice none 0 0)), (.raw (.slice none 0 0)), (.int .i64 0), (.int .i64 0)])],
             .op none none (.store 9) [.t 8, .t 18]])
           (.seq
            (.reg [
              .op (some 20) none .mv [.t 0],
              .op (some 21) none .mv [.t 1],
              .op (some 22) none (.faddr 0) [.t 8],
              .op (some 23) none (.load 1 false) [.t 22],
              .op (some 24) none (.faddr 7) [.t 8],
              .op (some 25) none (.load 1 false) [.t 24],
              .op (some 26) none (.faddr 8) [.t 8],
              .op (some 27) none (.load 1 false) [.t 26],
              .call (some 28) none 111 [.t 20, .t 21, .t 23, .c (.bool false), .t 25, .t 27],
              .op (some 19) none .mv [.t 28],
              .op (some 29) none (.ext 0) [.t 19],
              .op (some 30) none (.ext 1) [.t 19],
              .op (some 9) none .mv [.t 29],
              .op (some 10) none .mv [.t 30]])
            (.seq
             (.seq
              (.reg [
                .op (some 31) none .mv [.t 10],
                .op (some 32) none (.nileq 0 true) [.t 31]])
              (.cond (.t 32)
               (.seq
                (.reg [
                  .op (some 33) none .mv [.t 10],
                  .op (some 6) none .mv [.t 33]])
                .ret)
               .skip))
             (.seq
              (.seq
               (.reg [
                 .op (some 34) none .mv [.t 0],
                 .op (some 35) none .mv [.t 9],
                 .op (some 36) none (.faddr 4) [.t 8],
                 .op (some 37) none (.load 1 false) [.t 36],
                 .call (some 38) none 59 [.t 34, .t 35, .t 37],
                 .op (some 11) none .mv [.t 38]])
               (.seq
                (.reg [
                  .op (some 39) none .mv [.t 11],
                  .op (some 40) none (.nileq 0 true) [.t 39]])
                (.cond (.t 40)
                 (.seq
                  (.reg [
                    .op (some 41) none .mv [.t 11],
                    .op (some 6) none .mv [.t 41]])
                  .ret)
                 .skip)))
              (.seq
               (.reg [
                 .op (some 42) none .mv [.t 0],
                 .op (some 43) none .mv [.t 9],
                 .op (some 44) none (.faddr 3) [.t 8],
                 .op (some 45) none (.load 1 false) [.t 44],
                 .call (some 46) none 60 [.t 42, .t 43, .t 45],
                 .op (some 12) none .mv [.t 46]])
               (.seq
                (.reg [
                  .op (some 47) none .mv [.t 12],
                  .op (some 48) none (.nileq 0 true) [.t 47]])
                (.cond (.t 48)
                 (.seq
                  (.reg [
                    .op (some 49) none .mv [.t 12],
                    .op (some 6) none .mv [.t 49]])
                  .ret)
                 .skip))))))))
         (.reg [
           .op (some 50) none (.bin .add) [.t 15, .c (.int .i64 1)],
           .op (some 15) none .mv [.t 50]])))))))
   (.seq
    (.reg [
      .op (some 6) none .mv [.c (.raw .nilIface)]])
    .ret)))⟩
set_option maxRecDepth 100000 in
theorem af60 : compF Tryz.prog 60 = some AF60 := by kernel_rfl

/-- Function 62. -/
def AF62 : AF := ⟨62, [.tmp 6],
 (.seq
  (.reg [
    .op (some 5) none .box [.t 2],
    .op (some 6) none .mv [.c (.raw .nilIface)]])
  (.seq
   (.reg [
     .op (some 11) none (.faddr 0) [.t 5],
     .op (some 12) none (.load 1 false) [.t 11],
     .op (some 7) none .mv [.t 12]])
   (.seq
    (.seq
     (.reg [
       .op (some 13) none .mv [.t 1],
       .op (some 14) none (.bin .neq) [.t 13, .c (.str [])]])
     (.cond (.t 14)
      (.reg [
        .op (some 15) none .mv [.t 1],
        .op (some 16) none (.bin .add) [.t 15, .c (.str [46])],
        .op (some 17) none (.faddr 0) [.t 5],
        .op (some 18) none (.load 1 false) [.t 17],
        .op (some 19) none (.bin .add) [.t 16, .t 18],
        .op (some 7) none .mv [.t 19]])
      .skip))
    (.seq
     (.reg [
       .op (some 21) none .mv [.t 0],
       .op (some 22) none .mv [.t 7],
       .op (some 23) none (.load 9 true) [.t 5],
       .call (some 24) none 115 [.t 21, .t 22, .t 23],
       .op (some 20) none .mv [.t 24],
       .op (some 25) none (.ext 0) [.t 20],
       .op (some 26) none (.ext 1) [.t 20],
       .op (some 8) none .mv [.t 25],
       .op (some 9) none .mv [.t 26]])
     (.seq
      (.seq
       (.reg [
         .op (some 27) none .mv [.t 9],
         .op (some 28) none (.nileq 0 true) [.t 27]])
       (.cond (.t 28)
        (.seq
         (.reg [
           .op (some 29) none .mv [.t 9],
           .op (some 6) none .mv [.t 29]])
         .ret)
        .skip))
      (.seq
       (.seq
        (.reg [
          .op (some 30) none (.load 9 true) [.t 5],
          .op (some 31) none .mv [.t 8],
          .call (some 32) none 116 [.t 30, .t 31],
          .op (some 10) none .mv [.t 32]])
        (.seq
         (.reg [
           .op (some 33) none .mv [.t 10],
           .op (some 34) none (.nileq 0 true) [.t 33]])
         (.cond (.t 34)
          (.seq
           (.reg [
             .op (some 35) none .mv [.t 10],
             .op (some 6) none .mv [.t 35]])
           .ret)
          .skip)))
       (.seq
        (.reg [
          .op (some 36) none .mv [.t 8],
          .call (some 37) none 117 [.t 36, .c (.fn (.func 118) [] [])]])
        (.seq
         (.draw [
           .op (some 38) none .mv [.t 0],
           .op (some 39) none .mv [.t 0],
           .op (some 40) none .nilck [.t 39],
           .op (some 41) none (.faddr 1) [.t 40],
           .op (some 42) none (.faddr 0) [.t 41],
           .op (some 43) none (.load 1 false) [.t 42],
           .op (some 44) none .mv [.t 7],
           .op (some 45) none .mv [.t 8],
           .op (some 46) none (.faddr 2) [.t 5],
           .op (some 47) none (.load 1 false) [.t 46],
           .call (some 48) none 120 [.t 47],
           .op (some 49) none (.bld [(.str []), (.raw (.slice none 0 0)), (.raw (.slice none 0 0))] [(0, 1), (1, 1), (2, 1)]) [.t 44, .t 45, .t 48],
           .op (some 50) none (.lit 63 3) [.t 49],
           .op (some 51) none (.app 63 3 64) [.t 43, .t 50],
           .op (some 52) none .nilck [.t 38],
           .op (some 53) none (.faddr 1) [.t 52],
           .op (some 54) none (.faddr 0) [.t 53],
           .op none none (.store 1) [.t 54, .t 51]]
           [[], [], [1], [2, 1], [3, 2, 1], [4, 3, 2, 1], [], [], [], [8], [9, 8], [6, 7, 10, 9, 8], [11, 6, 7, 10, 9, 8], [5, 4, 3, 2, 1, 12, 11, 6, 7, 10, 9, 8], [0, 13, 5, 4, 3, 2, 1, 12, 11, 6, 7, 10, 9, 8], [14, 0, 13, 5, 4, 3, 2, 1, 12, 11, 6, 7, 10, 9, 8], [15, 14, 0, 13, 5, 4, 3, 2, 1, 12, 11, 6, 7, 10, 9, 8], [16, 15, 14, 0, 13, 5, 4, 3, 2, 1, 12, 11, 6, 7, 10, 9, 8]])
         (.seq
          (.reg [
            .op (some 55) none .mv [.t 0],
            .op (some 56) none .mv [.t 7],
            .op (some 57) none (.faddr 4) [.t 5],
            .op (some 58) none (.load 1 false) [.t 57],
            .op (some 59) none (.faddr 3) [.t 5],
            .op (some 60) none (.load 1 false) [.t 59],
            .call (some 61) none 31 [.t 55, .t 56, .t 58, .t 60],
            .op (some 6) none .mv [.t 61]])
          .ret)))))))))⟩
set_option maxRecDepth 100000 in
theorem af62 : compF Tryz.prog 62 = some AF62 := by kernel_rfl

/-- Function 63. -/
def AF63 : AF := ⟨19, [.tmp 4],
 (.seq
  (.reg [
    .op (some 4) none .mv [.c (.int .i64 0)]])
  (.seq
   (.seq
    (.reg [
      .op (some 6) none .mv [.t 0],
      .op (some 7) none .len [.t 6],
      .op (some 8) none .mv [.c (.int .i64 0)]])
    (.block 0
     (.loop
      (.seq
       (.reg [
         .op (some 9) none (.bin .lss) [.t 8, .t 7]])
       (.seq
        (.cond (.t 9)
         .skip
         (.exit 0))
        (.seq
         (.block 1
          (.seq
           (.reg [
             .op (some 10) none .mv [.t 8],
             .op (some 5) none .mv [.t 10]])
           (.seq
            (.reg [
              .op (some 11) none .mv [.t 1],
              .op (some 12) none .mv [.t 0],
              .op (some 13) none .mv [.t 5],
              .op (some 14) none (.idxa 9) [.t 12, .t 13],
              .op (some 15) none (.load 9 true) [.t 14],
              .dyn (some 16) none (.t 11) [.t 15]])
            (.cond (.t 16)
             (.seq
              (.reg [
                .op (some 17) none .mv [.t 5],
                .op (some 4) none .mv [.t 17]])
              .ret)
             .skip))))
         (.reg [
           .op (some 18) none (.bin .add) [.t 8, .c (.int .i64 1)],
           .op (some 8) none .mv [.t 18]])))))))
   (.seq
    (.reg [
      .op (some 4) none .mv [.c (.int .i64 (-1))]])
    .ret)))⟩
set_option maxRecDepth 100000 in
theorem af63 : compF Tryz.prog 63 = some AF63 := by kernel_rfl

/-- Function 71. -/
def AF71 : AF := ⟨33, [.tmp 6],
 (.seq
  (.reg [
    .op (some 3) none .box [.t 0],
    .op (some 5) none .box [.t 2],
    .op (some 6) none .mv [.c (.raw .nilIface)]])
  (.seq
   (.block 0
    (.seq
     (.reg [
       .op (some 8) none .mv [.t 1],
       .op (some 9) none (.bin .lss) [.t 8, .c (.int .i64 0)],
       .op (some 10) none .mv [.t 9],
       .op (some 11) (some (10, false)) .mv [.t 1],
       .op (some 12) (some (10, false)) (.faddr 0) [.t 3],
       .op (some 13) (some (10, false)) (.load 1 false) [.t 12],
       .op (some 14) (some (10, false)) .len [.t 13],
       .op (some 15) (some (10, false)) (.bin .geq) [.t 11, .t 14],
       .op (some 16) none .pick [.t 10, .c (.bool true), .t 15],
       .op (some 7) none .mv [.t 16]])
     (.cond (.t 7)
      (.seq
       (.reg [
         .op (some 17) none (.load 1 false) [.g 14],
         .op (some 6) none .mv [.t 17]])
       .ret)
      (.seq
       (.reg [
         .op (some 19) none (.faddr 0) [.t 5],
         .op (some 20) none (.load 1 false) [.t 19],
         .op (some 21) none (.bin .neq) [.t 20, .c (.int .i64 3)],
         .op (some 22) none .mv [.t 21],
         .op (some 23) (some (22, false)) (.load 7 true) [.t 5],
         .call (some 24) (some (22, false)) 129 [.t 23],
         .op (some 25) (some (22, false)) (.un .not) [.t 24],
         .op (some 26) none .pick [.t 22, .c (.bool true), .t 25],
         .op (some 18) none .mv [.t 26]])
       (.cond (.t 18)
        (.seq
         (.reg [
           .op (some 27) none (.load 1 false) [.g 1],
           .op (some 6) none .mv [.t 27]])
         .ret)
        .skip)))))
   (.seq
    (.reg [
      .op (some 28) none (.load 2 true) [.t 3],
      .op (some 29) none (.bld [(.raw (.slice none 0 0)), (.raw (.slice none 0 0))] [(0, 2)]) [.t 28],
      .op (some 30) none .mv [.t 1],
      .op (some 31) none (.load 7 true) [.t 5],
      .call (some 32) none 130 [.t 29, .t 30, .t 31],
      .op (some 6) none .mv [.t 32]])
    .ret)))⟩
set_option maxRecDepth 100000 in
theorem af71 : compF Tryz.prog 71 = some AF71 := by kernel_rfl

/-- Function 72. -/
def AF72 : AF := ⟨47, [],
 (.seq
  (.reg [
    .op (some 5) none .box [.t 2]])
  (.seq
   (.seq
    (.reg [
      .op (some 10) none (.faddr 3) [.t 5],
      .op (some 11) none (.load 1 false) [.t 10],
      .op (some 12) none .len [.t 11],
      .op (some 13) none .mv [.c (.int .i64 0)]])
    (.block 0
     (.loop
      (.seq
       (.reg [
         .op (some 14) none (.bin .lss) [.t 13, .t 12]])
       (.seq
        (.cond (.t 14)
         .skip
         (.exit 0))
        (.seq
         (.block 1
          (.seq
           (.reg [
             .op (some 15) none (.idxa 8) [.t 11, .t 13],
             .op (some 16) none (.load 8 true) [.t 15],
             .op (some 7) none .box [.c (.agg [(.int .i64 0), (.int .i64 0), (.int .u64 0), (.str []), (.raw (.slice none 0 0)), (.str []), (.raw (.slice none 0 0)), (.raw (.slice none 0 0))])],
             .op none none (.store 8) [.t 7, .t 16]])
           (.seq
            (.draw [
              .op (some 18) none .mv [.t 0],
              .op (some 19) none .nilck [.t 18],
              .op (some 20) none (.faddr 0) [.t 19],
              .op (some 21) none (.load 2 true) [.t 20],
              .op (some 22) none .mv [.t 1],
              .op (some 23) none (.faddr 0) [.t 7],
              .op (some 24) none (.load 1 false) [.t 23],
              .call (some 25) none 131 [.t 21, .t 22, .t 24],
              .op (some 17) none .mv [.t 25],
              .op (some 26) none (.ext 0) [.t 17],
              .op (some 27) none (.ext 1) [.t 17],
              .op (some 8) none .box [.c (.agg [(.str []), (.int .i64 0), (.int .i64 0), (.int .i64 0), (.int .i64 0), (.bool false), (.int .i64 0), (.int .i64 0), (.int .i64 0)])],
              .op none none (.store 9) [.t 8, .t 26],
              .op (some 9) none .mv [.t 27]]
              [[], [0], [1, 0], [2, 1, 0], [], [], [5], [3, 2, 1, 0, 4, 6, 5], [7, 3, 2, 1, 0, 4, 6, 5], [8, 7, 3, 2, 1, 0, 4, 6, 5], [8, 7, 3, 2, 1, 0, 4, 6, 5], [], [9, 8, 7, 3, 2, 1, 0, 4, 6, 5, 11], [10, 12, 9, 8, 7, 3, 2, 1, 0, 4, 6, 5, 11]])
            (.draw [
              .op (some 28) none (.faddr 2) [.t 8],
              .op (some 29) none (.load 1 false) [.t 28],
              .call (some 30) none 132 [.t 29],
              .op (some 31) none .mv [.t 0],
              .op (some 32) none (.load 9 true) [.t 8],
              .op (some 33) none (.faddr 1) [.t 7],
              .op (some 34) none (.load 7 true) [.t 33],
              .dyn (some 35) none (.t 30) [.t 31, .t 32, .t 34]]
              [[], [0], [1, 0], [], [], [], [5], [3, 4, 6, 5, 2, 1, 0]]))))
         (.reg [
           .op (some 36) none (.bin .add) [.t 13, .c (.int .i64 1)],
           .op (some 13) none .mv [.t 36]])))))))
   (.draw [
     .op (some 37) none .mv [.t 0],
     .op (some 38) none .mv [.t 0],
     .op (some 39) none .nilck [.t 38],
     .op (some 40) none (.faddr 2) [.t 39],
     .op (some 41) none (.load 1 false) [.t 40],
     .op (some 42) none (.faddr 4) [.t 5],
     .op (some 43) none (.load 1 false) [.t 42],
     .op (some 44) none (.apps 5 1) [.t 41, .t 43],
     .op (some 45) none .nilck [.t 37],
     .op (some 46) none (.faddr 2) [.t 45],
     .op none none (.store 1) [.t 46, .t 44]]
     [[], [], [1], [2, 1], [3, 2, 1], [], [5], [4, 3, 2, 1, 6, 5], [0, 7, 4, 3, 2, 1, 6, 5], [8, 0, 7, 4, 3, 2, 1, 6, 5], [9, 8, 0, 7, 4, 3, 2, 1, 6, 5]])))⟩
set_option maxRecDepth 100000 in
theorem af72 : compF Tryz.prog 72 = some AF72 := by kernel_rfl

/-- Function 97. -/
def AF97 : AF := ⟨46, [.tmp 2, .tmp 3],
 (.seq
  (.reg [
    .op (some 2) none .mv [.c (.bool false)],
    .op (some 3) none .mv [.c (.bool false)]])
  (.seq
   (.block 0
    (.seq
     (.reg [
       .op (some 7) none .mv [.t 0],
       .op (some 8) none .nilck [.t 7],
       .op (some 9) none (.faddr 0) [.t 8],
       .op (some 10) none (.load 1 false) [.t 9],
       .call (some 11) none 152 [.t 10, .c (.str [47, 47])],
       .op (some 6) none .mv [.t 11]])
     (.cond (.t 6)
      (.seq
       (.reg [
         .op (some 12) none .mv [.t 0],
         .op (some 13) none .nilck [.t 12],
         .op (some 14) none (.faddr 0) [.t 13],
         .op (some 15) none (.load 1 false) [.t 14],
         .call (some 16) none 96 [.t 15, .c (.int .u8 10)],
         .op (some 4) none .mv [.t 16]])
       (.seq
        (.seq
         (.reg [
           .op (some 17) none .mv [.t 4],
           .op (some 18) none (.bin .lss) [.t 17, .c (.int .i64 0)]])
         (.cond (.t 18)
          (.reg [
            .op (some 19) none .mv [.t 0],
            .op (some 20) none .nilck [.t 19],
            .op (some 21) none (.faddr 0) [.t 20],
            .op (some 22) none (.load 1 false) [.t 21],
            .op (some 23) none .slen [.t 22],
            .op (some 4) none .mv [.t 23]])
          .skip))
        (.seq
         (.reg [
           .op (some 24) none .mv [.t 0],
           .op (some 25) none .mv [.t 4],
           .call (some 26) none 52 [.t 24, .t 25]])
         (.seq
          (.reg [
            .op (some 2) none .mv [.c (.bool true)],
            .op (some 3) none .mv [.c (.bool true)]])
          .ret))))
      (.seq
       (.reg [
         .op (some 28) none .mv [.t 0],
         .op (some 29) none .nilck [.t 28],
         .op (some 30) none (.faddr 0) [.t 29],
         .op (some 31) none (.load 1 false) [.t 30],
         .call (some 32) none 152 [.t 31, .c (.str [47, 42])],
         .op (some 27) none .mv [.t 32]])
       (.cond (.t 27)
        (.seq
         (.reg [
           .op (some 33) none .mv [.t 0],
           .op (some 34) none .nilck [.t 33],
           .op (some 35) none (.faddr 0) [.t 34],
           .op (some 36) none (.load 1 false) [.t 35],
           .op (some 37) none (.sstr true false) [.t 36, .c (.int .i64 2)],
           .call (some 38) none 153 [.t 37, .c (.str [42, 47])],
           .op (some 5) none .mv [.t 38]])
         (.seq
          (.seq
           (.reg [
             .op (some 39) none .mv [.t 5],
             .op (some 40) none (.bin .lss) [.t 39, .c (.int .i64 0)]])
           (.cond (.t 40)
            (.seq
             (.reg [
               .op (some 2) none .mv [.c (.bool false)],
               .op (some 3) none .mv [.c (.bool false)]])
             .ret)
            .skip))
          (.seq
           (.reg [
             .op (some 41) none .mv [.t 0],
             .op (some 42) none .mv [.t 5],
             .op (some 43) none (.bin .add) [.c (.int .i64 2), .t 42],
             .op (some 44) none (.bin .add) [.t 43, .c (.int .i64 2)],
             .call (some 45) none 52 [.t 41, .t 44]])
           (.seq
            (.reg [
              .op (some 2) none .mv [.c (.bool true)],
              .op (some 3) none .mv [.c (.bool true)]])
            .ret))))
        .skip)))))
   (.seq
    (.reg [
      .op (some 2) none .mv [.c (.bool false)],
      .op (some 3) none .mv [.c (.bool true)]])
    .ret)))⟩
set_option maxRecDepth 100000 in
theorem af97 : compF Tryz.prog 97 = some AF97 := by kernel_rfl

/-- Function 99. -/
def AF99 : AF := ⟨36, [.cell 2 145, .tmp 3, .tmp 4],
 (.seq
  (.reg [
    .op (some 2) none .box [.c (.agg [(.int .i64 0), (.str []), (.int .i64 0), (.int .i64 0), (.int .i64 0)])],
    .op (some 3) none .mv [.c (.int .i64 0)],
    .op (some 4) none .mv [.c (.raw .nilIface)]])
  (.seq
   (.reg [
     .op (some 9) none .mv [.t 0],
     .call (some 10) none 94 [.t 9, .c (.fn (.func 98) [] [])],
     .op (some 5) none .mv [.t 10]])
   (.seq
    (.reg [
      .op (some 11) none .mv [.t 0],
      .op (some 12) none .mv [.t 5],
      .op (some 13) none (.sstr false true) [.t 11, .t 12],
      .op (some 14) none (.bld [(.int .i64 0), (.str []), (.int .i64 0), (.int .i64 0), (.int .i64 0)] [(0, 1), (1, 1)]) [.c (.int .i64 1), .t 13],
      .op (some 6) none .box [.c (.agg [(.int .i64 0), (.str []), (.int .i64 0), (.int .i64 0), (.int .i64 0)])],
      .op none none (.store 5) [.t 6, .t 14]])
    (.seq
     (.seq
      (.reg [
        .op (some 15) none .mv [.t 0],
        .op (some 16) none .idxs [.t 15, .c (.int .i64 0)],
        .call (some 17) none 155 [.t 16]])
      (.cond (.t 17)
       (.seq
        (.reg [
          .op (some 19) none (.faddr 1) [.t 6],
          .op (some 20) none (.load 1 false) [.t 19],
          .call (some 21) none 156 [.t 20],
          .op (some 18) none .mv [.t 21],
          .op (some 22) none (.ext 0) [.t 18],
          .op (some 23) none (.ext 1) [.t 18],
          .op (some 7) none .mv [.t 22],
          .op (some 8) none .mv [.t 23]])
        (.seq
         (.reg [
           .op (some 24) none .mv [.t 7],
           .op (some 25) none (.faddr 0) [.t 6],
           .op none none (.store 1) [.t 25, .c (.int .i64 2)],
           .op (some 26) none (.faddr 2) [.t 6],
           .op none none (.store 1) [.t 26, .t 24]])
         (.seq
          (.reg [
            .op (some 27) none (.load 5 true) [.t 6],
            .op (some 28) none .mv [.t 5],
            .op (some 29) none .mv [.t 8],
            .op none none (.store 5) [.t 2, .t 27],
            .op (some 3) none .mv [.t 28],
            .op (some 4) none .mv [.t 29]])
          .ret)))
       .skip))
     (.seq
      (.seq
       (.reg [
         .op (some 30) none .mv [.t 5],
         .op (some 31) none (.bin .gtr) [.t 30, .c (.int .i64 40)]])
       (.cond (.t 31)
        (.seq
         (.draw [
           .op (some 32) none (.bld [(.int .i64 0), (.str []), (.int .i64 0), (.int .i64 0), (.int .i64 0)] []) [],
           .op (some 33) none (.load 1 false) [.g 0],
           .op none none (.store 5) [.t 2, .t 32],
           .op (some 3) none .mv [.c (.int .i64 0)],
           .op (some 4) none .mv [.t 33]]
           [[], [], [0], [2, 0], [1, 3, 2, 0]])
         .ret)
        .skip))
      (.seq
       (.reg [
         .op (some 34) none (.load 5 true) [.t 6],
         .op (some 35) none .mv [.t 5],
         .op none none (.store 5) [.t 2, .t 34],
         .op (some 3) none .mv [.t 35],
         .op (some 4) none .mv [.c (.raw .nilIface)]])
       .ret))))))⟩
set_option maxRecDepth 100000 in
theorem af99 : compF Tryz.prog 99 = some AF99 := by kernel_rfl

/-- Function 100. -/
def AF100 : AF := ⟨29, [.cell 2 145, .tmp 3, .tmp 4],
 (.seq
  (.reg [
    .op (some 2) none .box [.c (.agg [(.int .i64 0), (.str []), (.int .i64 0), (.int .i64 0), (.int .i64 0)])],
    .op (some 3) none .mv [.c (.int .i64 0)],
    .op (some 4) none .mv [.c (.raw .nilIface)]])
  (.seq
   (.draw [
     .op (some 6) none .mv [.t 0],
     .op (some 7) none (.sstr true false) [.t 6, .c (.int .i64 1)],
     .op (some 8) none .mv [.t 0],
     .op (some 9) none .idxs [.t 8, .c (.int .i64 0)],
     .call (some 10) none 96 [.t 7, .t 9],
     .op (some 5) none .mv [.t 10]]
     [[], [0], [], [2], [1, 0, 3, 2], [4, 1, 0, 3, 2]])
   (.seq
    (.seq
     (.reg [
       .op (some 11) none .mv [.t 5],
       .op (some 12) none (.bin .lss) [.t 11, .c (.int .i64 0)],
       .op (some 13) none .mv [.t 12],
       .op (some 14) (some (13, false)) .mv [.t 0],
       .op (some 15) (some (13, false)) .mv [.t 5],
       .op (some 16) (some (13, false)) (.bin .add) [.t 15, .c (.int .i64 1)],
       .op (some 17) (some (13, false)) (.sstr true true) [.t 14, .c (.int .i64 1), .t 16],
       .call (some 18) (some (13, false)) 157 [.t 17, .c (.str [92, 10])],
       .op (some 19) none .pick [.t 13, .c (.bool true), .t 18]])
     (.cond (.t 19)
      (.seq
       (.draw [
         .op (some 20) none (.bld [(.int .i64 0), (.str []), (.int .i64 0), (.int .i64 0), (.int .i64 0)] []) [],
         .op (some 21) none (.load 1 false) [.g 1],
         .op none none (.store 5) [.t 2, .t 20],
         .op (some 3) none .mv [.c (.int .i64 0)],
         .op (some 4) none .mv [.t 21]]
         [[], [], [0], [2, 0], [1, 3, 2, 0]])
       .ret)
      .skip))
    (.seq
     (.reg [
       .op (some 22) none .mv [.t 0],
       .op (some 23) none .mv [.t 5],
       .op (some 24) none (.bin .add) [.t 23, .c (.int .i64 1)],
       .op (some 25) none (.sstr true true) [.t 22, .c (.int .i64 1), .t 24],
       .op (some 26) none (.bld [(.int .i64 0), (.str []), (.int .i64 0), (.int .i64 0), (.int .i64 0)] [(0, 1), (1, 1)]) [.c (.int .i64 3), .t 25],
       .op (some 27) none .mv [.t 5],
       .op (some 28) none (.bin .add) [.t 27, .c (.int .i64 2)],
       .op none none (.store 5) [.t 2, .t 26],
       .op (some 3) none .mv [.t 28],
       .op (some 4) none .mv [.c (.raw .nilIface)]])
     .ret))))⟩
set_option maxRecDepth 100000 in
theorem af100 : compF Tryz.prog 100 = some AF100 := by kernel_rfl

/-- Function 101. -/
def AF101 : AF := ⟨10, [],
 (.seq
  (.reg [
    .op (some 4) none .mv [.t 0],
    .op (some 5) none .mv [.t 1],
    .call (some 6) none 55 [.t 4, .t 5],
    .op (some 7) none (.un .not) [.t 6]])
  (.cond (.t 7)
   (.reg [
     .op (some 8) none .mv [.t 0],
     .call (some 9) none 58 [.t 8]])
   .skip))⟩
set_option maxRecDepth 100000 in
theorem af101 : compF Tryz.prog 101 = some AF101 := by kernel_rfl

/-- Function 102. -/
def AF102 : AF := ⟨10, [],
 (.seq
  (.reg [
    .op (some 4) none .mv [.t 0],
    .op (some 5) none .mv [.t 1],
    .call (some 6) none 54 [.t 4, .c (.int .i64 4), .t 5],
    .op (some 7) none (.un .not) [.t 6]])
  (.cond (.t 7)
   (.reg [
     .op (some 8) none .mv [.t 0],
     .call (some 9) none 58 [.t 8]])
   .skip))⟩
set_option maxRecDepth 100000 in
theorem af102 : compF Tryz.prog 102 = some AF102 := by kernel_rfl

/-- Function 104. -/
def AF104 : AF := ⟨23, [.cell 4 145],
 (.seq
  (.reg [
    .op (some 4) none .box [.c (.agg [(.int .i64 0), (.str []), (.int .i64 0), (.int .i64 0), (.int .i64 0)])]])
  (.seq
   (.reg [
     .op (some 6) none .mv [.t 0],
     .call (some 7) none 103 [.t 6],
     .op (some 5) none .box [.c (.agg [(.int .i64 0), (.str []), (.int .i64 0), (.int .i64 0), (.int .i64 0)])],
     .op none none (.store 5) [.t 5, .t 7]])
   (.seq
    (.seq
     (.reg [
       .op (some 8) none (.faddr 0) [.t 5],
       .op (some 9) none (.load 1 false) [.t 8],
       .op (some 10) none .mv [.t 1],
       .op (some 11) none (.bin .neq) [.t 9, .t 10]])
     (.cond (.t 11)
      (.seq
       (.reg [
         .op (some 12) none .mv [.t 0],
         .call (some 13) none 58 [.t 12]])
       (.seq
        (.reg [
          .op (some 14) none (.bld [(.int .i64 0), (.str []), (.int .i64 0), (.int .i64 0), (.int .i64 0)] []) [],
          .op none none (.store 5) [.t 4, .t 14]])
        .ret))
      .skip))
    (.seq
     (.reg [
       .op (some 15) none .mv [.t 0],
       .op (some 16) none .nilck [.t 15],
       .op (some 17) none (.faddr 1) [.t 16],
       .op (some 18) none (.load 1 false) [.t 17],
       .op (some 19) none (.bin .add) [.t 18, .c (.int .i64 1)],
       .op (some 20) none .nilck [.t 15],
       .op (some 21) none (.faddr 1) [.t 20],
       .op none none (.store 1) [.t 21, .t 19]])
     (.seq
      (.reg [
        .op (some 22) none (.load 5 true) [.t 5],
        .op none none (.store 5) [.t 4, .t 22]])
      .ret)))))⟩
set_option maxRecDepth 100000 in
theorem af104 : compF Tryz.prog 104 = some AF104 := by kernel_rfl

/-- Function 105. -/
def AF105 : AF := ⟨16, [.tmp 2],
 (.seq
  (.reg [
    .op (some 2) none .mv [.c (.str [])]])
  (.seq
   (.reg [
     .op (some 4) none .mv [.t 0],
     .call (some 5) none 107 [.t 4],
     .op (some 6) none (.fld 1 1 false) [.t 5],
     .op (some 3) none .mv [.t 6]])
   (.seq
    (.block 0
     (.loop
      (.seq
       (.seq
        (.reg [
          .op (some 7) none .mv [.t 0],
          .call (some 8) none 54 [.t 7, .c (.int .i64 4), .c (.str [46])]])
        (.cond (.t 8)
         .skip
         (.exit 0)))
       (.block 1
        (.reg [
          .op (some 9) none .mv [.t 3],
          .op (some 10) none .mv [.t 0],
          .call (some 11) none 107 [.t 10],
          .op (some 12) none (.fld 1 1 false) [.t 11],
          .op (some 13) none (.bin .add) [.c (.str [46]), .t 12],
          .op (some 14) none (.bin .add) [.t 9, .t 13],
          .op (some 3) none .mv [.t 14]])))))
    (.seq
     (.reg [
       .op (some 15) none .mv [.t 3],
       .op (some 2) none .mv [.t 15]])
     .ret))))⟩
set_option maxRecDepth 100000 in
theorem af105 : compF Tryz.prog 105 = some AF105 := by kernel_rfl

/-- Function 107. -/
def AF107 : AF := ⟨5, [.cell 2 145],
 (.seq
  (.reg [
    .op (some 2) none .box [.c (.agg [(.int .i64 0), (.str []), (.int .i64 0), (.int .i64 0), (.int .i64 0)])]])
  (.seq
   (.reg [
     .op (some 3) none .mv [.t 0],
     .call (some 4) none 104 [.t 3, .c (.int .i64 1)],
     .op none none (.store 5) [.t 2, .t 4]])
   .ret))⟩
set_option maxRecDepth 100000 in
theorem af107 : compF Tryz.prog 107 = some AF107 := by kernel_rfl

/-- Function 108. -/
def AF108 : AF := ⟨15, [.tmp 2],
 (.seq
  (.reg [
    .op (some 2) none .mv [.c (.bool false)]])
  (.seq
   (.block 0
    (.loop
     (.seq
      (.seq
       (.reg [
         .op (some 3) none .mv [.t 0],
         .call (some 4) none 54 [.t 3, .c (.int .i64 4), .c (.str [59])]])
       (.cond (.t 4)
        .skip
        (.exit 0)))
      (.block 1
       (.exit 1)))))
   (.seq
    (.reg [
      .op (some 5) none .mv [.t 0],
      .op (some 6) none .nilck [.t 5],
      .op (some 7) none (.faddr 2) [.t 6],
      .op (some 8) none (.load 1 false) [.t 7],
      .op (some 9) none (.nileq 0 false) [.t 8],
      .op (some 10) none .mv [.t 9],
      .op (some 11) (some (10, true)) .mv [.t 0],
      .call (some 12) (some (10, true)) 54 [.t 11, .c (.int .i64 4), .c (.str [125])],
      .op (some 13) (some (10, true)) (.un .not) [.t 12],
      .op (some 14) none .pick [.t 10, .t 13, .c (.bool false)],
      .op (some 2) none .mv [.t 14]])
    .ret)))⟩
set_option maxRecDepth 100000 in
theorem af108 : compF Tryz.prog 108 = some AF108 := by kernel_rfl

/-- Function 109. -/
def AF109 : AF := ⟨102, [],
 (.block 0
  (.seq
   (.reg [
     .op (some 18) none .mv [.t 0],
     .call (some 19) none 55 [.t 18, .c (.str [109, 101, 115, 115, 97, 103, 101])],
     .op (some 17) none .mv [.t 19]])
   (.cond (.t 17)
    (.draw [
      .op (some 20) none .mv [.t 1],
      .op (some 21) none .nilck [.t 20],
      .op (some 22) none (.faddr 3) [.t 21],
      .op (some 23) none (.load 1 false) [.t 22],
      .op (some 24) none .mv [.t 0],
      .op (some 25) none .mv [.t 2],
      .op (some 26) none (.bin .add) [.t 25, .c (.int .i64 1)],
      .call (some 27) none 56 [.t 24, .t 26],
      .op (some 28) none .len [.t 23],
      .op (some 29) none (.lit 157 9) [.c (.agg [(.str []), (.raw (.slice none 0 0)), (.raw (.slice none 0 0)), (.raw (.slice none 0 0)), (.raw (.slice none 0 0)), (.raw (.slice none 0 0)), (.raw (.slice none 0 0)), (.int .i64 0), (.int .i64 0)])],
      .op (some 30) none (.app 157 9 176) [.t 23, .t 29],
      .op (some 31) none (.idxa 9) [.t 30, .t 28],
      .op none none (.store 9) [.t 31, .t 27],
      .op (some 32) none .nilck [.t 20],
      .op (some 33) none (.faddr 3) [.t 32],
      .op none none (.store 1) [.t 33, .t 30]]
      [[], [0], [1, 0], [2, 1, 0], [], [], [5], [4, 6, 5], [3, 2, 1, 0], [], [7, 4, 6, 5, 8, 3, 2, 1, 0, 9], [10, 7, 4, 6, 5, 8, 3, 2, 1, 0, 9], [11, 10, 7, 4, 6, 5, 8, 3, 2, 1, 0, 9], [10, 7, 4, 6, 5, 8, 3, 2, 1, 0, 9], [13, 10, 7, 4, 6, 5, 8, 3, 2, 1, 0, 9], [14, 13, 10, 7, 4, 6, 5, 8, 3, 2, 1, 0, 9]])
    (.seq
     (.reg [
       .op (some 35) none .mv [.t 0],
       .call (some 36) none 55 [.t 35, .c (.str [101, 110, 117, 109])],
       .op (some 34) none .mv [.t 36]])
     (.cond (.t 34)
      (.draw [
        .op (some 37) none .mv [.t 1],
        .op (some 38) none .mv [.t 1],
        .op (some 39) none .nilck [.t 38],
        .op (some 40) none (.faddr 4) [.t 39],
        .op (some 41) none (.load 1 false) [.t 40],
        .op (some 42) none .mv [.t 0],
        .call (some 43) none 57 [.t 42],
        .op (some 44) none (.lit 161 4) [.t 43],
        .op (some 45) none (.app 161 4 56) [.t 41, .t 44],
        .op (some 46) none .nilck [.t 37],
        .op (some 47) none (.faddr 4) [.t 46],
        .op none none (.store 1) [.t 47, .t 45]]
        [[], [], [1], [2, 1], [3, 2, 1], [], [5], [6, 5], [4, 3, 2, 1, 7, 6, 5], [0, 8, 4, 3, 2, 1, 7, 6, 5], [9, 0, 8, 4, 3, 2, 1, 7, 6, 5], [10, 9, 0, 8, 4, 3, 2, 1, 7, 6, 5]])
      (.seq
       (.reg [
         .op (some 49) none .mv [.t 0],
         .call (some 50) none 55 [.t 49, .c (.str [111, 110, 101, 111, 102])],
         .op (some 48) none .mv [.t 50]])
       (.cond (.t 48)
        (.reg [
          .op (some 51) none .mv [.t 0],
          .op (some 52) none .mv [.t 1],
          .call (some 53) none 158 [.t 51, .t 52]])
        (.seq
         (.reg [
           .op (some 55) none .mv [.t 0],
           .call (some 56) none 55 [.t 55, .c (.str [114, 101, 115, 101, 114, 118, 101, 100])],
           .op (some 54) none .mv [.t 56]])
         (.cond (.t 54)
          (.reg [
            .op (some 57) none .mv [.t 0],
            .op (some 58) none .mv [.t 1],
            .call (some 59) none 159 [.t 57, .t 58]])
          (.seq
           (.reg [
             .op (some 61) none .mv [.t 0],
             .call (some 62) none 55 [.t 61, .c (.str [114, 101, 112, 101, 97, 116, 101, 100])],
             .op (some 60) none .mv [.t 62]])
           (.cond (.t 60)
            (.draw [
              .op (some 63) none .mv [.t 1],
              .op (some 64) none .mv [.t 1],
              .op (some 65) none .nilck [.t 64],
              .op (some 66) none (.faddr 1) [.t 65],
              .op (some 67) none (.load 1 false) [.t 66],
              .op (some 68) none .mv [.t 0],
              .call (some 69) none 160 [.t 68, .c (.int .i64 3), .c (.int .i64 0)],
              .op (some 70) none (.lit 102 10) [.t 69],
              .op (some 71) none (.app 102 10 112) [.t 67, .t 70],
              .op (some 72) none .nilck [.t 63],
              .op (some 73) none (.faddr 1) [.t 72],
              .op none none (.store 1) [.t 73, .t 71]]
              [[], [], [1], [2, 1], [3, 2, 1], [], [5], [6, 5], [4, 3, 2, 1, 7, 6, 5], [0, 8, 4, 3, 2, 1, 7, 6, 5], [9, 0, 8, 4, 3, 2, 1, 7, 6, 5], [10, 9, 0, 8, 4, 3, 2, 1, 7, 6, 5]])
            (.seq
             (.reg [
               .op (some 75) none .mv [.t 0],
               .call (some 76) none 55 [.t 75, .c (.str [111, 112, 116, 105, 111, 110, 97, 108])],
               .op (some 74) none .mv [.t 76]])
             (.cond (.t 74)
              (.draw [
                .op (some 77) none .mv [.t 1],
                .op (some 78) none .mv [.t 1],
                .op (some 79) none .nilck [.t 78],
                .op (some 80) none (.faddr 1) [.t 79],
                .op (some 81) none (.load 1 false) [.t 80],
                .op (some 82) none .mv [.t 0],
                .call (some 83) none 160 [.t 82, .c (.int .i64 2), .c (.int .i64 0)],
                .op (some 84) none (.lit 102 10) [.t 83],
                .op (some 85) none (.app 102 10 112) [.t 81, .t 84],
                .op (some 86) none .nilck [.t 77],
                .op (some 87) none (.faddr 1) [.t 86],
                .op none none (.store 1) [.t 87, .t 85]]
                [[], [], [1], [2, 1], [3, 2, 1], [], [5], [6, 5], [4, 3, 2, 1, 7, 6, 5], [0, 8, 4, 3, 2, 1, 7, 6, 5], [9, 0, 8, 4, 3, 2, 1, 7, 6, 5], [10, 9, 0, 8, 4, 3, 2, 1, 7, 6, 5]])
              (.seq
               (.reg [
                 .op (some 89) none .mv [.t 0],
                 .call (some 90) none 161 [.t 89],
                 .op (some 88) none .mv [.t 90]])
               (.cond (.t 88)
                (.draw [
                  .op (some 91) none .mv [.t 1],
                  .op (some 92) none .mv [.t 1],
                  .op (some 93) none .nilck [.t 92],
                  .op (some 94) none (.faddr 1) [.t 93],
                  .op (some 95) none (.load 1 false) [.t 94],
                  .op (some 96) none .mv [.t 0],
                  .call (some 97) none 162 [.t 96],
                  .op (some 98) none (.lit 102 10) [.t 97],
                  .op (some 99) none (.app 102 10 112) [.t 95, .t 98],
                  .op (some 100) none .nilck [.t 91],
                  .op (some 101) none (.faddr 1) [.t 100],
                  .op none none (.store 1) [.t 101, .t 99]]
                  [[], [], [1], [2, 1], [3, 2, 1], [], [5], [6, 5], [4, 3, 2, 1, 7, 6, 5], [0, 8, 4, 3, 2, 1, 7, 6, 5], [9, 0, 8, 4, 3, 2, 1, 7, 6, 5], [10, 9, 0, 8, 4, 3, 2, 1, 7, 6, 5]])
                (.draw [
                  .op (some 6) none .mv [.t 1],
                  .op (some 7) none .mv [.t 1],
                  .op (some 8) none .nilck [.t 7],
                  .op (some 9) none (.faddr 1) [.t 8],
                  .op (some 10) none (.load 1 false) [.t 9],
                  .op (some 11) none .mv [.t 0],
                  .call (some 12) none 160 [.t 11, .c (.int .i64 1), .c (.int .i64 0)],
                  .op (some 13) none (.lit 102 10) [.t 12],
                  .op (some 14) none (.app 102 10 112) [.t 10, .t 13],
                  .op (some 15) none .nilck [.t 6],
                  .op (some 16) none (.faddr 1) [.t 15],
                  .op none none (.store 1) [.t 16, .t 14]]
                  [[], [], [1], [2, 1], [3, 2, 1], [], [5], [6, 5], [4, 3, 2, 1, 7, 6, 5], [0, 8, 4, 3, 2, 1, 7, 6, 5], [9, 0, 8, 4, 3, 2, 1, 7, 6, 5], [10, 9, 0, 8, 4, 3, 2, 1, 7, 6, 5]]))))))))))))))))⟩
set_option maxRecDepth 100000 in
theorem af109 : compF Tryz.prog 109 = some AF109 := by kernel_rfl

/-- Function 111. -/
def AF111 : AF := ⟨93, [.tmp 12, .tmp 13],
 (.seq
  (.reg [
    .op (some 12) none .mv [.c (.str [])],
    .op (some 13) none .mv [.c (.raw .nilIface)]])
  (.seq
   (.reg [
     .op (some 18) none .mv [.t 1],
     .op (some 19) none .mv [.t 2],
     .call (some 20) none 163 [.t 18, .t 19],
     .op (some 14) none .mv [.t 20]])
   (.seq
    (.reg [
      .op (some 22) none .mv [.t 0],
      .op (some 23) none .nilck [.t 22],
      .op (some 24) none (.faddr 1) [.t 23],
      .op (some 25) none (.load 1 false) [.t 24],
      .op (some 26) none .mv [.t 14],
      .op (some 27) none (.mget 1 true (.int .i64 0)) [.t 25, .t 26],
      .op (some 21) none .mv [.t 27],
      .op (some 28) none (.ext 0) [.t 21],
      .op (some 29) none (.ext 1) [.t 21],
      .op (some 15) none .mv [.t 28],
      .op (some 16) none .mv [.t 29]])
    (.seq
     (.block 0
      (.seq
       (.reg [
         .op (some 31) none .mv [.t 16],
         .op (some 30) none .mv [.t 31]])
       (.cond (.t 30)
        (.seq
         (.draw [
           .op (some 32) none .mv [.t 4],
           .op (some 33) none .mv [.t 5],
           .op (some 34) none (.load 1 false) [.g 4],
           .op (some 35) none (.bld [(.int .i64 0), (.int .i64 0), (.raw .nilIface)] [(0, 1), (1, 1), (2, 1)]) [.t 32, .t 33, .t 34],
           .op (some 36) none .boxs [.t 35],
           .op (some 37) none (.mkif 138) [.t 36],
           .op (some 12) none .mv [.c (.str [])],
           .op (some 13) none .mv [.t 37]]
           [[], [], [], [0, 1, 2], [3, 0, 1, 2], [4, 3, 0, 1, 2], [], [5, 4, 3, 0, 1, 2, 6]])
         .ret)
        (.seq
         (.reg [
           .op (some 39) none .mv [.t 0],
           .op (some 40) none .nilck [.t 39],
           .op (some 41) none (.faddr 0) [.t 40],
           .op (some 42) none (.load 1 false) [.t 41],
           .op (some 43) none .len [.t 42],
           .op (some 44) none (.bin .geq) [.t 43, .c (.int .i64 40)],
           .op (some 38) none .mv [.t 44]])
         (.cond (.t 38)
          (.seq
           (.draw [
             .op (some 45) none .mv [.t 4],
             .op (some 46) none .mv [.t 5],
             .op (some 47) none (.load 1 false) [.g 0],
             .op (some 48) none (.bld [(.int .i64 0), (.int .i64 0), (.raw .nilIface)] [(0, 1), (1, 1), (2, 1)]) [.t 45, .t 46, .t 47],
             .op (some 49) none .boxs [.t 48],
             .op (some 50) none (.mkif 138) [.t 49],
             .op (some 12) none .mv [.c (.str [])],
             .op (some 13) none .mv [.t 50]]
             [[], [], [], [0, 1, 2], [3, 0, 1, 2], [4, 3, 0, 1, 2], [], [5, 4, 3, 0, 1, 2, 6]])
           .ret)
          .skip)))))
     (.seq
      (.reg [
        .op (some 51) none .mv [.t 0],
        .op (some 52) none .nilck [.t 51],
        .op (some 53) none (.faddr 2) [.t 52],
        .op (some 54) none (.idxarr 2 1) [.t 53, .c (.int .i64 0)],
        .op (some 17) none .mv [.t 54]])
      (.seq
       (.seq
        (.reg [
          .op (some 55) none .mv [.t 3]])
        (.cond (.t 55)
         (.reg [
           .op (some 56) none .mv [.t 0],
           .op (some 57) none .nilck [.t 56],
           .op (some 58) none (.faddr 2) [.t 57],
           .op (some 59) none (.idxarr 2 1) [.t 58, .c (.int .i64 1)],
           .op (some 17) none .mv [.t 59]])
         .skip))
       (.seq
        (.draw [
          .op (some 60) none .mv [.t 0],
          .op (some 61) none .nilck [.t 60],
          .op (some 62) none (.faddr 1) [.t 61],
          .op (some 63) none (.load 1 false) [.t 62],
          .op (some 64) none .mv [.t 14],
          .op (some 65) none .mv [.t 0],
          .op (some 66) none .nilck [.t 65],
          .op (some 67) none (.faddr 0) [.t 66],
          .op (some 68) none (.load 1 false) [.t 67],
          .op (some 69) none .len [.t 68],
          .op none none (.mput 1) [.t 63, .t 64, .t 69]]
          [[], [0], [1, 0], [2, 1, 0], [], [], [5], [6, 5], [7, 6, 5], [8, 7, 6, 5], [3, 2, 1, 0, 4, 9, 8, 7, 6, 5]])
        (.seq
         (.draw [
           .op (some 70) none .mv [.t 0],
           .op (some 71) none .mv [.t 0],
           .op (some 72) none .nilck [.t 71],
           .op (some 73) none (.faddr 0) [.t 72],
           .op (some 74) none (.load 1 false) [.t 73],
           .op (some 75) none .mv [.t 14],
           .op (some 76) none .mv [.t 3],
           .op (some 77) none .mv [.t 17],
           .op (some 78) none .nilck [.t 77],
           .op (some 79) none (.load 1 false) [.t 78],
           .op (some 80) none .mv [.t 4],
           .op (some 81) none .mv [.t 5],
           .op (some 82) none (.bld [(.str []), (.bool false), (.int .i64 0), (.int .i64 0), (.int .i64 0)] [(0, 1), (1, 1), (2, 1), (3, 1), (4, 1)]) [.t 75, .t 76, .t 79, .t 80, .t 81],
           .op (some 83) none (.lit 296 5) [.t 82],
           .op (some 84) none (.app 296 5 48) [.t 74, .t 83],
           .op (some 85) none .nilck [.t 70],
           .op (some 86) none (.faddr 0) [.t 85],
           .op none none (.store 1) [.t 86, .t 84]]
           [[], [], [1], [2, 1], [3, 2, 1], [], [], [], [7], [8, 7], [], [], [5, 6, 9, 8, 7, 10, 11], [12, 5, 6, 9, 8, 7, 10, 11], [4, 3, 2, 1, 13, 12, 5, 6, 9, 8, 7, 10, 11], [0, 14, 4, 3, 2, 1, 13, 12, 5, 6, 9, 8, 7, 10, 11], [15, 0, 14, 4, 3, 2, 1, 13, 12, 5, 6, 9, 8, 7, 10, 11], [16, 15, 0, 14, 4, 3, 2, 1, 13, 12, 5, 6, 9, 8, 7, 10, 11]])
         (.seq
          (.reg [
            .op (some 87) none .mv [.t 17],
            .op (some 88) none .nilck [.t 87],
            .op (some 89) none (.load 1 false) [.t 88],
            .op (some 90) none (.bin .add) [.t 89, .c (.int .i64 1)],
            .op (some 91) none .nilck [.t 87],
            .op none none (.store 1) [.t 91, .t 90]])
          (.seq
           (.reg [
             .op (some 92) none .mv [.t 14],
             .op (some 12) none .mv [.t 92],
             .op (some 13) none .mv [.c (.raw .nilIface)]])
           .ret))))))))))⟩
set_option maxRecDepth 100000 in
theorem af111 : compF Tryz.prog 111 = some AF111 := by kernel_rfl

/-- Function 113. -/
def AF113 : AF := ⟨9, [.tmp 4],
 (.seq
  (.reg [
    .op (some 4) none .mv [.c (.bool false)]])
  (.seq
   (.reg [
     .op (some 5) none .mv [.t 0],
     .op (some 6) none .mv [.t 1],
     .call (some 7) none 165 [.t 5, .t 6],
     .op (some 8) none (.bin .geq) [.t 7, .c (.int .i64 0)],
     .op (some 4) none .mv [.t 8]])
   .ret))⟩
set_option maxRecDepth 100000 in
theorem af113 : compF Tryz.prog 113 = some AF113 := by kernel_rfl

/-- Function 115. -/
def AF115 : AF := ⟨73, [.tmp 6, .tmp 7],
 (.seq
  (.reg [
    .op (some 5) none .box [.t 2],
    .op (some 6) none .mv [.c (.raw (.slice none 0 0))],
    .op (some 7) none .mv [.c (.raw .nilIface)]])
  (.seq
   (.reg [
     .op (some 8) none .mv [.c (.raw (.slice none 0 0))]])
   (.seq
    (.seq
     (.reg [
       .op (some 13) none (.faddr 1) [.t 5],
       .op (some 14) none (.load 1 false) [.t 13],
       .op (some 15) none .len [.t 14],
       .op (some 16) none .mv [.c (.int .i64 0)]])
     (.block 0
      (.loop
       (.seq
        (.reg [
          .op (some 17) none (.bin .lss) [.t 16, .t 15]])
        (.seq
         (.cond (.t 17)
          .skip
          (.exit 0))
         (.seq
          (.block 1
           (.seq
            (.reg [
              .op (some 18) none (.idxa 10) [.t 14, .t 16],
              .op (some 19) none (.load 10 true) [.t 18],
              .op (some 10) none .box [.c (.agg [(.str []), (.str []), (.str []), (.str []), (.int .i64 0), (.int .i64 0), (.int .i64 0), (.int .i64 0), (.int .i64 0), (.int .i64 0)])],
              .op none none (.store 10) [.t 10, .t 19]])
            (.seq
             (.reg [
               .op (some 20) none .mv [.t 0],
               .op (some 21) none (.load 9 true) [.t 5],
               .op (some 22) none .mv [.t 1],
               .op (some 23) none .mv [.t 8],
               .op (some 24) none (.load 10 true) [.t 10],
               .op (some 25) none (.bld [(.raw (.pointer none)), (.str []), (.raw (.slice none 0 0)), (.raw (.slice none 0 0)), (.raw (.slice none 0 0)), (.raw (.slice none 0 0)), (.raw (.slice none 0 0)), (.raw (.slice none 0 0)), (.int .i64 0), (.int .i64 0), (.str []), (.raw (.slice none 0 0)), (.str []), (.str []), (.str []), (.str []), (.int .i64 0), (.int .i64 0), (.int .i64 0), (.int .i64 0), (.int .i64 0), (.int .i64 0), (.str []), (.int .i64 0), (.int .i64 0), (.int .i64 0), (.int .i64 0), (.bool false), (.int .i64 0), (.int .i64 0), (.int .i64 0)] [(0, 1), (1, 9), (10, 1), (11, 1), (12, 10)]) [.t 20, .t 21, .t 22, .t 23, .t 24],
               .op (some 26) none .box [.t 25],
               .op (some 11) none .mv [.t 26]])
             (.seq
              (.reg [
                .op (some 27) none .mv [.t 11],
                .op (some 28) none (.faddr 0) [.t 10],
                .op (some 29) none (.load 1 false) [.t 28],
                .op (some 30) none (.faddr 5) [.t 10],
                .op (some 31) none (.load 1 false) [.t 30],
                .op (some 32) none (.faddr 4) [.t 10],
                .op (some 33) none (.load 1 false) [.t 32],
                .op (some 34) none (.faddr 7) [.t 10],
                .op (some 35) none (.load 1 false) [.t 34],
                .op (some 36) none (.bld [(.str []), (.int .i64 0), (.int .i64 0), (.int .i64 0), (.int .i64 0), (.bool false), (.int .i64 0), (.int .i64 0), (.int .i64 0)] [(0, 1), (1, 1), (2, 1), (8, 1)]) [.t 29, .t 31, .t 33, .t 35],
                .op (some 37) none .nilck [.t 27],
                .op (some 38) none (.faddr 22) [.t 37],
                .op none none (.store 9) [.t 38, .t 36]])
              (.seq
               (.seq
                (.reg [
                  .op (some 39) none .mv [.t 11],
                  .call (some 40) none 167 [.t 39],
                  .op (some 12) none .mv [.t 40]])
                (.seq
                 (.reg [
                   .op (some 41) none .mv [.t 12],
                   .op (some 42) none (.nileq 0 true) [.t 41]])
                 (.cond (.t 42)
                  (.seq
                   (.reg [
                     .op (some 43) none .mv [.t 12],
                     .op (some 6) none .mv [.c (.raw (.slice none 0 0))],
                     .op (some 7) none .mv [.t 43]])
                   .ret)
                  .skip)))
               (.seq
                (.seq
                 (.reg [
                   .op (some 44) none (.faddr 3) [.t 10],
                   .op (some 45) none (.load 1 false) [.t 44],
                   .op (some 46) none (.bin .neq) [.t 45, .c (.str [])]])
                 (.cond (.t 46)
                  (.draw [
                    .op (some 47) none .mv [.t 0],
                    .op (some 48) none .mv [.t 0],
                    .op (some 49) none .nilck [.t 48],
                    .op (some 50) none (.faddr 3) [.t 49],
                    .op (some 51) none (.load 1 false) [.t 50],
                    .op (some 52) none .mv [.t 0],
                    .op (some 53) none .nilck [.t 52],
                    .op (some 54) none (.faddr 1) [.t 53],
                    .op (some 55) none (.faddr 0) [.t 54],
                    .op (some 56) none (.load 1 false) [.t 55],
                    .op (some 57) none .len [.t 56],
                    .op (some 58) none (.load 10 true) [.t 10],
                    .op (some 59) none (.bld [(.int .i64 0), (.str []), (.str []), (.str []), (.str []), (.int .i64 0), (.int .i64 0), (.int .i64 0), (.int .i64 0), (.int .i64 0), (.int .i64 0)] [(0, 1), (1, 10)]) [.t 57, .t 58],
                    .op (some 60) none (.lit 104 11) [.t 59],
                    .op (some 61) none (.app 104 11 120) [.t 51, .t 60],
                    .op (some 62) none .nilck [.t 47],
                    .op (some 63) none (.faddr 3) [.t 62],
                    .op none none (.store 1) [.t 63, .t 61]]
                    [[], [], [1], [2, 1], [3, 2, 1], [], [5], [6, 5], [7, 6, 5], [8, 7, 6, 5], [9, 8, 7, 6, 5], [], [10, 9, 8, 7, 6, 5, 11], [12, 10, 9, 8, 7, 6, 5, 11], [4, 3, 2, 1, 13, 12, 10, 9, 8, 7, 6, 5, 11], [0, 14, 4, 3, 2, 1, 13, 12, 10, 9, 8, 7, 6, 5, 11], [15, 0, 14, 4, 3, 2, 1, 13, 12, 10, 9, 8, 7, 6, 5, 11], [16, 15, 0, 14, 4, 3, 2, 1, 13, 12, 10, 9, 8, 7, 6, 5, 11]])
                  .skip))
                (.reg [
                  .op (some 64) none .mv [.t 8],
                  .op (some 65) none .mv [.t 11],
                  .op (some 66) none .nilck [.t 65],
                  .op (some 67) none (.faddr 22) [.t 66],
                  .op (some 68) none (.load 9 true) [.t 67],
                  .op (some 69) none (.lit 65 9) [.t 68],
                  .op (some 70) none (.app 65 9 80) [.t 64, .t 69],
                  .op (some 8) none .mv [.t 70]])))))))
          (.reg [
            .op (some 71) none (.bin .add) [.t 16, .c (.int .i64 1)],
            .op (some 16) none .mv [.t 71]])))))))
    (.seq
     (.reg [
       .op (some 72) none .mv [.t 8],
       .op (some 6) none .mv [.t 72],
       .op (some 7) none .mv [.c (.raw .nilIface)]])
     .ret))))⟩
set_option maxRecDepth 100000 in
theorem af115 : compF Tryz.prog 115 = some AF115 := by kernel_rfl

/-- Function 116. -/
def AF116 : AF := ⟨33, [.tmp 4],
 (.seq
  (.reg [
    .op (some 2) none .box [.t 0],
    .op (some 4) none .mv [.c (.raw .nilIface)]])
  (.seq
   (.seq
    (.reg [
      .op (some 7) none (.faddr 2) [.t 2],
      .op (some 8) none (.load 1 false) [.t 7],
      .op (some 9) none .len [.t 8],
      .op (some 10) none .mv [.c (.int .i64 0)]])
    (.block 0
     (.loop
      (.seq
       (.reg [
         .op (some 11) none (.bin .lss) [.t 10, .t 9]])
       (.seq
        (.cond (.t 11)
         .skip
         (.exit 0))
        (.seq
         (.block 1
          (.seq
           (.reg [
             .op (some 12) none .mv [.t 10],
             .op (some 13) none (.idxa 1) [.t 8, .t 10],
             .op (some 14) none (.load 1 false) [.t 13],
             .op (some 6) none .box [.c (.str [])],
             .op (some 5) none .mv [.t 12],
             .op none none (.store 1) [.t 6, .t 14]])
           (.seq
            (.draw [
              .op (some 15) none (.faddr 2) [.t 2],
              .op (some 16) none (.load 1 false) [.t 15],
              .op (some 17) none .mv [.t 5],
              .op (some 18) none (.ssl 1 false true) [.t 16, .t 17],
              .op (some 19) none (.load 1 false) [.t 6],
              .call (some 20) none 113 [.t 18, .t 19],
              .op (some 21) none .mv [.t 20],
              .op (some 22) (some (21, false)) .mv [.t 1],
              .op (some 23) (some (21, false)) (.mkfn (.func 169) 0) [.t 6],
              .call (some 24) (some (21, false)) 168 [.t 22, .t 23],
              .op (some 25) none .pick [.t 21, .c (.bool true), .t 24]]
              [[], [0], [], [1, 0, 2], [], [3, 1, 0, 2, 4], [5, 3, 1, 0, 2, 4], [6, 5, 3, 1, 0, 2, 4], [6, 5, 3, 1, 0, 2, 4], [7, 8, 6, 5, 3, 1, 0, 2, 4], [9, 7, 8, 6, 5, 3, 1, 0, 2, 4]])
            (.cond (.t 25)
             (.seq
              (.reg [
                .op (some 26) none (.faddr 7) [.t 2],
                .op (some 27) none (.load 1 false) [.t 26],
                .op (some 28) none (.faddr 8) [.t 2],
                .op (some 29) none (.load 1 false) [.t 28],
                .op (some 30) none (.load 1 false) [.g 4],
                .call (some 31) none 67 [.t 27, .t 29, .t 30],
                .op (some 4) none .mv [.t 31]])
              .ret)
             .skip))))
         (.reg [
           .op (some 32) none (.bin .add) [.t 10, .c (.int .i64 1)],
           .op (some 10) none .mv [.t 32]])))))))
   (.seq
    (.reg [
      .op (some 4) none .mv [.c (.raw .nilIface)]])
    .ret)))⟩
set_option maxRecDepth 100000 in
theorem af116 : compF Tryz.prog 116 = some AF116 := by kernel_rfl

/-- Function 117. -/
def AF117 : AF := ⟨14, [],
 (.seq
  (.reg [
    .op (some 5) none .mv [.t 0],
    .op (some 6) none .len [.t 5],
    .op (some 4) none .mv [.t 6]])
  (.reg [
    .op (some 7) none .mv [.t 0],
    .op (some 8) none .mv [.t 4],
    .op (some 9) none .mv [.t 4],
    .op (some 10) none (.conv .u64) [.t 9],
    .call (some 11) none 171 [.t 10],
    .op (some 12) none .mv [.t 1],
    .call (some 13) none 170 [.t 7, .c (.int .i64 0), .t 8, .t 11, .t 12]]))⟩
set_option maxRecDepth 100000 in
theorem af117 : compF Tryz.prog 117 = some AF117 := by kernel_rfl

/-- Function 120. -/
def AF120 : AF := ⟨8, [.tmp 2],
 (.seq
  (.reg [
    .op (some 2) none .mv [.c (.raw (.slice none 0 0))]])
  (.seq
   (.seq
    (.reg [
      .op (some 3) none .mv [.t 0],
      .op (some 4) none (.nileq 3 false) [.t 3]])
    (.cond (.t 4)
     (.seq
      (.reg [
        .op (some 2) none .mv [.c (.raw (.slice none 0 0))]])
      .ret)
     .skip))
   (.seq
    (.reg [
      .op (some 5) none (.lit 9 1) [],
      .op (some 6) none .mv [.t 0],
      .op (some 7) none (.app 9 1 16) [.t 5, .t 6],
      .op (some 2) none .mv [.t 7]])
    .ret)))⟩
set_option maxRecDepth 100000 in
theorem af120 : compF Tryz.prog 120 = some AF120 := by kernel_rfl

/-- Function 121. -/
def AF121 : AF := ⟨36, [.cell 6 65, .tmp 7],
 (.seq
  (.reg [
    .op (some 3) none .box [.t 0],
    .op (some 6) none .box [.c (.agg [(.str []), (.int .i64 0), (.int .i64 0), (.int .i64 0), (.int .i64 0), (.bool false), (.int .i64 0), (.int .i64 0), (.int .i64 0)])],
    .op (some 7) none .mv [.c (.bool false)]])
  (.seq
   (.seq
    (.reg [
      .op (some 10) none .mv [.t 1],
      .op (some 11) none (.bin .lss) [.t 10, .c (.int .i64 0)],
      .op (some 12) none .mv [.t 11],
      .op (some 13) (some (12, false)) .mv [.t 1],
      .op (some 14) (some (12, false)) (.faddr 0) [.t 3],
      .op (some 15) (some (12, false)) (.load 1 false) [.t 14],
      .op (some 16) (some (12, false)) .len [.t 15],
      .op (some 17) (some (12, false)) (.bin .geq) [.t 13, .t 16],
      .op (some 18) none .pick [.t 12, .c (.bool true), .t 17]])
    (.cond (.t 18)
     (.seq
      (.reg [
        .op (some 19) none (.bld [(.str []), (.int .i64 0), (.int .i64 0), (.int .i64 0), (.int .i64 0), (.bool false), (.int .i64 0), (.int .i64 0), (.int .i64 0)] []) [],
        .op none none (.store 9) [.t 6, .t 19],
        .op (some 7) none .mv [.c (.bool false)]])
      .ret)
     .skip))
   (.seq
    (.reg [
      .op (some 20) none (.faddr 0) [.t 3],
      .op (some 21) none (.load 1 false) [.t 20],
      .op (some 22) none .mv [.t 1],
      .op (some 23) none (.idxa 3) [.t 21, .t 22],
      .op (some 24) none (.faddr 1) [.t 23],
      .op (some 25) none (.load 1 false) [.t 24],
      .op (some 8) none .mv [.t 25]])
    (.seq
     (.reg [
       .op (some 26) none .mv [.t 8],
       .op (some 27) none .mv [.t 2],
       .call (some 28) none 63 [.t 26, .t 27],
       .op (some 9) none .mv [.t 28]])
     (.seq
      (.seq
       (.reg [
         .op (some 29) none .mv [.t 9],
         .op (some 30) none (.bin .lss) [.t 29, .c (.int .i64 0)]])
       (.cond (.t 30)
        (.seq
         (.reg [
           .op (some 31) none (.bld [(.str []), (.int .i64 0), (.int .i64 0), (.int .i64 0), (.int .i64 0), (.bool false), (.int .i64 0), (.int .i64 0), (.int .i64 0)] []) [],
           .op none none (.store 9) [.t 6, .t 31],
           .op (some 7) none .mv [.c (.bool false)]])
         .ret)
        .skip))
      (.seq
       (.reg [
         .op (some 32) none .mv [.t 8],
         .op (some 33) none .mv [.t 9],
         .op (some 34) none (.idxa 9) [.t 32, .t 33],
         .op (some 35) none (.load 9 true) [.t 34],
         .op none none (.store 9) [.t 6, .t 35],
         .op (some 7) none .mv [.c (.bool true)]])
       .ret))))))⟩
set_option maxRecDepth 100000 in
theorem af121 : compF Tryz.prog 121 = some AF121 := by kernel_rfl

/-- Function 129. -/
def AF129 : AF := ⟨34, [.tmp 2],
 (.seq
  (.reg [
    .op (some 1) none .box [.t 0],
    .op (some 2) none .mv [.c (.bool false)]])
  (.seq
   (.seq
    (.reg [
      .op (some 3) none (.load 7 true) [.t 1],
      .call (some 4) none 175 [.t 3],
      .op (some 5) none (.un .not) [.t 4]])
    (.cond (.t 5)
     (.seq
      (.reg [
        .op (some 2) none .mv [.c (.bool false)]])
      .ret)
     .skip))
   (.seq
    (.seq
     (.reg [
       .op (some 6) none (.faddr 0) [.t 1],
       .op (some 7) none (.load 1 false) [.t 6]])
     (.block 0
      (.seq
       (.seq
        (.reg [
          .op (some 9) none (.bin .eql) [.t 7, .c (.int .i64 0)],
          .op (some 8) none .mv [.t 9]])
        (.cond (.t 8)
         .skip
         (.seq
          (.reg [
            .op (some 10) none (.bin .eql) [.t 7, .c (.int .i64 1)],
            .op (some 8) none .mv [.t 10]])
          (.cond (.t 8)
           .skip
           (.reg [
             .op (some 11) none (.bin .eql) [.t 7, .c (.int .i64 2)],
             .op (some 8) none .mv [.t 11]])))))
       (.cond (.t 8)
        (.seq
         (.reg [
           .op (some 2) none .mv [.c (.bool true)]])
         .ret)
        (.seq
         (.reg [
           .op (some 13) none (.bin .eql) [.t 7, .c (.int .i64 3)],
           .op (some 12) none .mv [.t 13]])
         (.cond (.t 12)
          (.seq
           (.reg [
             .op (some 14) none (.faddr 3) [.t 1],
             .op (some 15) none (.load 1 false) [.t 14],
             .call (some 16) none 176 [.t 15],
             .op (some 2) none .mv [.t 16]])
           .ret)
          (.seq
           (.reg [
             .op (some 18) none (.bin .eql) [.t 7, .c (.int .i64 4)],
             .op (some 17) none .mv [.t 18]])
           (.cond (.t 17)
            (.seq
             (.reg [
               .op (some 19) none (.faddr 5) [.t 1],
               .op (some 20) none (.load 1 false) [.t 19],
               .op (some 21) none .len [.t 20],
               .op (some 22) none (.bin .gtr) [.t 21, .c (.int .i64 0)],
               .op (some 23) none .mv [.t 22],
               .op (some 24) (some (23, true)) (.faddr 5) [.t 1],
               .op (some 25) (some (23, true)) (.load 1 false) [.t 24],
               .call (some 26) (some (23, true)) 177 [.t 25, .c (.fn (.func 178) [] [])],
               .op (some 27) (some (23, true)) (.un .not) [.t 26],
               .op (some 28) none .pick [.t 23, .t 27, .c (.bool false)],
               .op (some 2) none .mv [.t 28]])
             .ret)
            (.seq
             (.reg [
               .op (some 30) none (.bin .eql) [.t 7, .c (.int .i64 5)],
               .op (some 29) none .mv [.t 30]])
             (.cond (.t 29)
              (.seq
               (.reg [
                 .op (some 31) none (.faddr 6) [.t 1],
                 .op (some 32) none (.load 1 false) [.t 31],
                 .call (some 33) none 180 [.t 32],
                 .op (some 2) none .mv [.t 33]])
               .ret)
              .skip))))))))))
    (.seq
     (.reg [
       .op (some 2) none .mv [.c (.bool false)]])
     .ret))))⟩
set_option maxRecDepth 100000 in
theorem af129 : compF Tryz.prog 129 = some AF129 := by kernel_rfl

/-- Function 130. -/
def AF130 : AF := ⟨71, [.tmp 6],
 (.seq
  (.reg [
    .op (some 3) none .box [.t 0],
    .op (some 5) none .box [.t 2],
    .op (some 6) none .mv [.c (.raw .nilIface)]])
  (.seq
   (.reg [
     .op (some 15) none .mkmap [],
     .op (some 7) none .mv [.t 15]])
   (.seq
    (.seq
     (.reg [
       .op (some 16) none (.faddr 3) [.t 5],
       .op (some 17) none (.load 1 false) [.t 16],
       .op (some 18) none .len [.t 17],
       .op (some 19) none .mv [.c (.int .i64 0)]])
     (.block 0
      (.loop
       (.seq
        (.reg [
          .op (some 20) none (.bin .lss) [.t 19, .t 18]])
        (.seq
         (.cond (.t 20)
          .skip
          (.exit 0))
         (.seq
          (.block 1
           (.seq
            (.reg [
              .op (some 21) none (.idxa 8) [.t 17, .t 19],
              .op (some 22) none (.load 8 true) [.t 21],
              .op (some 9) none .box [.c (.agg [(.int .i64 0), (.int .i64 0), (.int .u64 0), (.str []), (.raw (.slice none 0 0)), (.str []), (.raw (.slice none 0 0)), (.raw (.slice none 0 0))])],
              .op none none (.store 8) [.t 9, .t 22]])
            (.seq
             (.reg [
               .op (some 24) none (.faddr 0) [.t 3],
               .op (some 25) none (.load 2 true) [.t 24],
               .op (some 26) none .mv [.t 1],
               .op (some 27) none (.faddr 0) [.t 9],
               .op (some 28) none (.load 1 false) [.t 27],
               .call (some 29) none 131 [.t 25, .t 26, .t 28],
               .op (some 23) none .mv [.t 29],
               .op (some 30) none (.ext 0) [.t 23],
               .op (some 31) none (.ext 1) [.t 23],
               .op (some 10) none .box [.c (.agg [(.str []), (.int .i64 0), (.int .i64 0), (.int .i64 0), (.int .i64 0), (.bool false), (.int .i64 0), (.int .i64 0), (.int .i64 0)])],
               .op none none (.store 9) [.t 10, .t 30],
               .op (some 11) none .mv [.t 31]])
             (.seq
              (.seq
               (.reg [
                 .op (some 32) none .mv [.t 11],
                 .op (some 33) none (.un .not) [.t 32]])
               (.cond (.t 33)
                (.seq
                 (.reg [
                   .op (some 34) none (.load 1 false) [.g 9],
                   .op (some 6) none .mv [.t 34]])
                 .ret)
                .skip))
              (.seq
               (.seq
                (.draw [
                  .op (some 35) none (.faddr 2) [.t 10],
                  .op (some 36) none (.load 1 false) [.t 35],
                  .call (some 37) none 181 [.t 36],
                  .op (some 38) none (.load 2 true) [.t 3],
                  .op (some 39) none (.load 9 true) [.t 10],
                  .op (some 40) none (.faddr 1) [.t 9],
                  .op (some 41) none (.load 7 true) [.t 40],
                  .dyn (some 42) none (.t 37) [.t 38, .t 39, .t 41],
                  .op (some 12) none .mv [.t 42]]
                  [[], [0], [1, 0], [], [], [], [5], [3, 4, 6, 5, 2, 1, 0], [7, 3, 4, 6, 5, 2, 1, 0]])
                (.seq
                 (.reg [
                   .op (some 43) none .mv [.t 12],
                   .op (some 44) none (.nileq 0 true) [.t 43]])
                 (.cond (.t 44)
                  (.seq
                   (.reg [
                     .op (some 45) none .mv [.t 12],
                     .op (some 6) none .mv [.t 45]])
                   .ret)
                  .skip)))
               (.reg [
                 .op (some 46) none .mv [.t 7],
                 .op (some 47) none (.faddr 8) [.t 10],
                 .op (some 48) none (.load 1 false) [.t 47],
                 .op (some 49) none (.mget 0 false (.int .i64 0)) [.t 46, .t 48],
                 .op (some 50) none (.bin .add) [.t 49, .c (.int .i64 1)],
                 .op none none (.mput 0) [.t 46, .t 48, .t 50]]))))))
          (.reg [
            .op (some 51) none (.bin .add) [.t 19, .c (.int .i64 1)],
            .op (some 19) none .mv [.t 51]])))))))
    (.seq
     (.seq
      (.reg [
        .op (some 52) none .mv [.t 7],
        .op (some 53) none .rangem [.t 52]])
      (.block 2
       (.loop
        (.seq
         (.reg [
           .op (some 54) none .nextm [.t 53],
           .op (some 55) none (.ext 0) [.t 54]])
         (.seq
          (.cond (.t 55)
           .skip
           (.exit 2))
          (.block 3
           (.seq
            (.reg [
              .op (some 56) none .entrym [.t 53],
              .op (some 57) none (.ext 0) [.t 56],
              .op (some 58) none (.ext 1) [.t 56],
              .op (some 13) none .mv [.t 57],
              .op (some 14) none .mv [.t 58]])
            (.seq
             (.reg [
               .op (some 59) none .mv [.t 13],
               .op (some 60) none (.bin .gtr) [.t 59, .c (.int .i64 0)],
               .op (some 61) none .mv [.t 60],
               .op (some 62) (some (61, true)) .mv [.t 14],
               .op (some 63) (some (61, true)) (.bin .gtr) [.t 62, .c (.int .i64 1)],
               .op (some 64) none .pick [.t 61, .t 63, .c (.bool false)]])
             (.cond (.t 64)
              (.seq
               (.reg [
                 .op (some 65) none (.load 1 false) [.g 4],
                 .op (some 6) none .mv [.t 65]])
               .ret)
              .skip)))))))))
     (.seq
      (.reg [
        .op (some 66) none (.load 2 true) [.t 3],
        .op (some 67) none .mv [.t 1],
        .op (some 68) none (.faddr 4) [.t 5],
        .op (some 69) none (.load 1 false) [.t 68],
        .call (some 70) none 182 [.t 66, .t 67, .t 69],
        .op (some 6) none .mv [.t 70]])
      .ret)))))⟩
set_option maxRecDepth 100000 in
theorem af130 : compF Tryz.prog 130 = some AF130 := by kernel_rfl

/-- Function 131. -/
def AF131 : AF := ⟨14, [.cell 6 65, .tmp 7],
 (.seq
  (.reg [
    .op (some 3) none .box [.t 0],
    .op (some 5) none .box [.t 2],
    .op (some 6) none .box [.c (.agg [(.str []), (.int .i64 0), (.int .i64 0), (.int .i64 0), (.int .i64 0), (.bool false), (.int .i64 0), (.int .i64 0), (.int .i64 0)])],
    .op (some 7) none .mv [.c (.bool false)]])
  (.seq
   (.reg [
     .op (some 8) none (.load 2 true) [.t 3],
     .op (some 9) none .mv [.t 1],
     .op (some 10) none (.mkfn (.func 183) 0) [.t 5],
     .call (some 11) none 121 [.t 8, .t 9, .t 10],
     .op (some 12) none (.ext 0) [.t 11],
     .op (some 13) none (.ext 1) [.t 11],
     .op none none (.store 9) [.t 6, .t 12],
     .op (some 7) none .mv [.t 13]])
   .ret))⟩
set_option maxRecDepth 100000 in
theorem af131 : compF Tryz.prog 131 = some AF131 := by kernel_rfl

/-- Function 132. -/
def AF132 : AF := ⟨8, [.tmp 2],
 (.seq
  (.reg [
    .op (some 2) none .mv [.c (.raw .nilFunc)]])
  (.seq
   (.seq
    (.reg [
      .op (some 3) none .mv [.t 0]])
    (.block 0
     (.seq
      (.reg [
        .op (some 5) none (.bin .eql) [.t 3, .c (.int .i64 3)],
        .op (some 4) none .mv [.t 5]])
      (.cond (.t 4)
       (.seq
        (.reg [
          .op (some 2) none .mv [.c (.fn (.func 184) [] [])]])
        .ret)
       (.seq
        (.reg [
          .op (some 7) none (.bin .eql) [.t 3, .c (.int .i64 4)],
          .op (some 6) none .mv [.t 7]])
        (.cond (.t 6)
         (.seq
          (.reg [
            .op (some 2) none .mv [.c (.fn (.func 185) [] [])]])
          .ret)
         .skip))))))
   (.seq
    (.reg [
      .op (some 2) none .mv [.c (.fn (.func 186) [] [])]])
    .ret)))⟩
set_option maxRecDepth 100000 in
theorem af132 : compF Tryz.prog 132 = some AF132 := by kernel_rfl

/-- Function 156. -/
def AF156 : AF := ⟨51, [.tmp 2, .tmp 3],
 (.seq
  (.reg [
    .op (some 2) none .mv [.c (.int .i64 0)],
    .op (some 3) none .mv [.c (.raw .nilIface)]])
  (.seq
   (.reg [
     .op (some 8) none .mv [.t 0],
     .op (some 4) none .box [.c (.int .i64 0)],
     .op none none (.store 1) [.t 4, .c (.int .i64 10)],
     .op (some 5) none .mv [.t 8]])
   (.seq
    (.block 0
     (.seq
      (.reg [
        .op (some 10) none .mv [.t 0],
        .call (some 11) none 152 [.t 10, .c (.str [48, 120])],
        .op (some 12) none .mv [.t 11],
        .op (some 13) (some (12, false)) .mv [.t 0],
        .call (some 14) (some (12, false)) 152 [.t 13, .c (.str [48, 88])],
        .op (some 15) none .pick [.t 12, .c (.bool true), .t 14],
        .op (some 9) none .mv [.t 15]])
      (.cond (.t 9)
       (.draw [
         .op (some 16) none .mv [.t 0],
         .op (some 17) none (.sstr true false) [.t 16, .c (.int .i64 2)],
         .op none none (.store 1) [.t 4, .c (.int .i64 16)],
         .op (some 5) none .mv [.t 17]]
         [[], [0], [], [1, 0, 2]])
       (.seq
        (.reg [
          .op (some 19) none .mv [.t 0],
          .op (some 20) none .slen [.t 19],
          .op (some 21) none (.bin .gtr) [.t 20, .c (.int .i64 1)],
          .op (some 22) none .mv [.t 21],
          .op (some 23) (some (22, true)) .mv [.t 0],
          .op (some 24) (some (22, true)) .idxs [.t 23, .c (.int .i64 0)],
          .op (some 25) (some (22, true)) (.bin .eql) [.t 24, .c (.int .u8 48)],
          .op (some 26) none .pick [.t 22, .t 25, .c (.bool false)],
          .op (some 18) none .mv [.t 26]])
        (.cond (.t 18)
         (.draw [
           .op (some 27) none .mv [.t 0],
           .op (some 28) none (.sstr true false) [.t 27, .c (.int .i64 1)],
           .op none none (.store 1) [.t 4, .c (.int .i64 8)],
           .op (some 5) none .mv [.t 28]]
           [[], [0], [], [1, 0, 2]])
         .skip)))))
    (.seq
     (.seq
      (.reg [
        .op (some 29) none .mv [.t 5],
        .op (some 30) none (.bin .eql) [.t 29, .c (.str [])],
        .op (some 31) none .mv [.t 30],
        .op (some 32) (some (31, false)) .mv [.t 5],
        .op (some 33) (some (31, false)) (.mkfn (.func 201) 0) [.t 4],
        .call (some 34) (some (31, false)) 94 [.t 32, .t 33],
        .op (some 35) (some (31, false)) .mv [.t 5],
        .op (some 36) (some (31, false)) .slen [.t 35],
        .op (some 37) (some (31, false)) (.bin .lss) [.t 34, .t 36],
        .op (some 38) none .pick [.t 31, .c (.bool true), .t 37]])
      (.cond (.t 38)
       (.seq
        (.draw [
          .op (some 39) none (.load 1 false) [.g 1],
          .op (some 2) none .mv [.c (.int .i64 0)],
          .op (some 3) none .mv [.t 39]]
          [[], [], [0, 1]])
        .ret)
       .skip))
     (.seq
      (.reg [
        .op (some 41) none .mv [.t 5],
        .op (some 42) none (.load 1 false) [.t 4],
        .call (some 43) none 203 [.t 41, .t 42, .c (.int .i64 31)],
        .op (some 40) none .mv [.t 43],
        .op (some 44) none (.ext 0) [.t 40],
        .op (some 45) none (.ext 1) [.t 40],
        .op (some 6) none .mv [.t 44],
        .op (some 7) none .mv [.t 45]])
      (.seq
       (.seq
        (.reg [
          .op (some 46) none .mv [.t 7],
          .op (some 47) none (.nileq 0 true) [.t 46]])
        (.cond (.t 47)
         (.seq
          (.draw [
            .op (some 48) none (.load 1 false) [.g 6],
            .op (some 2) none .mv [.c (.int .i64 0)],
            .op (some 3) none .mv [.t 48]]
            [[], [], [0, 1]])
          .ret)
         .skip))
       (.seq
        (.reg [
          .op (some 49) none .mv [.t 6],
          .op (some 50) none (.conv .i64) [.t 49],
          .op (some 2) none .mv [.t 50],
          .op (some 3) none .mv [.c (.raw .nilIface)]])
        .ret)))))))⟩
set_option maxRecDepth 100000 in
theorem af156 : compF Tryz.prog 156 = some AF156 := by kernel_rfl

/-- Function 157. -/
def AF157 : AF := ⟨9, [.tmp 4],
 (.seq
  (.reg [
    .op (some 4) none .mv [.c (.bool false)]])
  (.seq
   (.reg [
     .op (some 5) none .mv [.t 0],
     .op (some 6) none .mv [.t 1],
     .call (some 7) none 204 [.t 5, .t 6],
     .op (some 8) none (.bin .geq) [.t 7, .c (.int .i64 0)],
     .op (some 4) none .mv [.t 8]])
   .ret))⟩
set_option maxRecDepth 100000 in
theorem af157 : compF Tryz.prog 157 = some AF157 := by kernel_rfl

/-- Function 160. -/
def AF160 : AF := ⟨14, [.cell 6 102],
 (.seq
  (.reg [
    .op (some 6) none .box [.c (.agg [(.str []), (.str []), (.str []), (.str []), (.int .i64 0), (.int .i64 0), (.int .i64 0), (.int .i64 0), (.int .i64 0), (.int .i64 0)])]])
  (.seq
   (.reg [
     .op (some 7) none .mv [.t 0],
     .op (some 8) none .mv [.t 1],
     .op (some 9) none .mv [.t 2],
     .op (some 10) none .mv [.t 0],
     .call (some 11) none 206 [.t 10],
     .op (some 12) none (.bld [(.str []), (.str []), (.str []), (.str []), (.int .i64 0), (.int .i64 0), (.int .i64 0), (.int .i64 0), (.int .i64 0), (.int .i64 0)] [(4, 1), (7, 1), (1, 1)]) [.t 8, .t 9, .t 11],
     .call (some 13) none 205 [.t 7, .t 12],
     .op none none (.store 10) [.t 6, .t 13]])
   .ret))⟩
set_option maxRecDepth 100000 in
theorem af160 : compF Tryz.prog 160 = some AF160 := by kernel_rfl

/-- Function 161. -/
def AF161 : AF := ⟨15, [.tmp 2],
 (.seq
  (.reg [
    .op (some 2) none .mv [.c (.bool false)]])
  (.seq
   (.seq
    (.reg [
      .op (some 3) none .mv [.t 0],
      .call (some 4) none 55 [.t 3, .c (.str [109, 97, 112])],
      .op (some 5) none (.un .not) [.t 4]])
    (.cond (.t 5)
     (.seq
      (.reg [
        .op (some 2) none .mv [.c (.bool false)]])
      .ret)
     .skip))
   (.seq
    (.seq
     (.reg [
       .op (some 6) none .mv [.t 0],
       .call (some 7) none 106 [.t 6, .c (.int .i64 4), .c (.str [60])]])
     (.cond (.t 7)
      (.seq
       (.reg [
         .op (some 2) none .mv [.c (.bool true)]])
       .ret)
      .skip))
    (.seq
     (.reg [
       .op (some 8) none .mv [.t 0],
       .op (some 9) none .nilck [.t 8],
       .op (some 10) none (.faddr 1) [.t 9],
       .op (some 11) none (.load 1 false) [.t 10],
       .op (some 12) none (.bin .sub) [.t 11, .c (.int .i64 1)],
       .op (some 13) none .nilck [.t 8],
       .op (some 14) none (.faddr 1) [.t 13],
       .op none none (.store 1) [.t 14, .t 12]])
     (.seq
      (.reg [
        .op (some 2) none .mv [.c (.bool false)]])
      .ret)))))⟩
set_option maxRecDepth 100000 in
theorem af161 : compF Tryz.prog 161 = some AF161 := by kernel_rfl

/-- Function 163. -/
def AF163 : AF := ⟨12, [.tmp 4],
 (.seq
  (.reg [
    .op (some 4) none .mv [.c (.str [])]])
  (.seq
   (.seq
    (.reg [
      .op (some 5) none .mv [.t 0],
      .op (some 6) none (.bin .eql) [.t 5, .c (.str [])]])
    (.cond (.t 6)
     (.seq
      (.reg [
        .op (some 7) none .mv [.t 1],
        .op (some 4) none .mv [.t 7]])
      .ret)
     .skip))
   (.seq
    (.reg [
      .op (some 8) none .mv [.t 0],
      .op (some 9) none (.bin .add) [.t 8, .c (.str [46])],
      .op (some 10) none .mv [.t 1],
      .op (some 11) none (.bin .add) [.t 9, .t 10],
      .op (some 4) none .mv [.t 11]])
    .ret)))⟩
set_option maxRecDepth 100000 in
theorem af163 : compF Tryz.prog 163 = some AF163 := by kernel_rfl

/-- Function 165. -/
def AF165 : AF := ⟨19, [.tmp 4],
 (.seq
  (.reg [
    .op (some 4) none .mv [.c (.int .i64 0)]])
  (.seq
   (.seq
    (.reg [
      .op (some 6) none .mv [.t 0],
      .op (some 7) none .len [.t 6],
      .op (some 8) none .mv [.c (.int .i64 0)]])
    (.block 0
     (.loop
      (.seq
       (.reg [
         .op (some 9) none (.bin .lss) [.t 8, .t 7]])
       (.seq
        (.cond (.t 9)
         .skip
         (.exit 0))
        (.seq
         (.block 1
          (.seq
           (.reg [
             .op (some 10) none .mv [.t 8],
             .op (some 5) none .mv [.t 10]])
           (.seq
            (.reg [
              .op (some 11) none .mv [.t 1],
              .op (some 12) none .mv [.t 0],
              .op (some 13) none .mv [.t 5],
              .op (some 14) none (.idxa 1) [.t 12, .t 13],
              .op (some 15) none (.load 1 false) [.t 14],
              .op (some 16) none (.bin .eql) [.t 11, .t 15]])
            (.cond (.t 16)
             (.seq
              (.reg [
                .op (some 17) none .mv [.t 5],
                .op (some 4) none .mv [.t 17]])
              .ret)
             .skip))))
         (.reg [
           .op (some 18) none (.bin .add) [.t 8, .c (.int .i64 1)],
           .op (some 8) none .mv [.t 18]])))))))
   (.seq
    (.reg [
      .op (some 4) none .mv [.c (.int .i64 (-1))]])
    .ret)))⟩
set_option maxRecDepth 100000 in
theorem af165 : compF Tryz.prog 165 = some AF165 := by kernel_rfl

/-- Function 167. -/
def AF167 : AF := ⟨45, [.tmp 2],
 (.seq
  (.reg [
    .op (some 2) none .mv [.c (.raw .nilIface)]])
  (.seq
   (.seq
    (.reg [
      .op (some 6) none .mv [.t 0],
      .op (some 7) none (.mkfn (.func 207) 1) [.t 6],
      .op (some 8) none .mv [.t 0],
      .op (some 9) none (.mkfn (.func 208) 1) [.t 8],
      .op (some 10) none .mv [.t 0],
      .op (some 11) none (.mkfn (.func 209) 1) [.t 10],
      .op (some 12) none .mv [.t 0],
      .op (some 13) none (.mkfn (.func 210) 1) [.t 12],
      .op (some 14) none .mv [.t 0],
      .op (some 15) none (.mkfn (.func 211) 1) [.t 14],
      .op (some 16) none .mv [.t 0],
      .op (some 17) none (.mkfn (.func 212) 1) [.t 16],
      .op (some 18) none .mv [.t 0],
      .op (some 19) none (.mkfn (.func 213) 1) [.t 18],
      .op (some 20) none .mv [.t 0],
      .op (some 21) none (.mkfn (.func 214) 1) [.t 20],
      .op (some 22) none (.litp (.raw .nilFunc) 8) [.t 7, .t 9, .t 11, .t 13, .t 15, .t 17, .t 19, .t 21],
      .op (some 23) none .len [.t 22],
      .op (some 24) none .mv [.c (.int .i64 0)]])
    (.block 0
     (.loop
      (.seq
       (.reg [
         .op (some 25) none (.bin .lss) [.t 24, .t 23]])
       (.seq
        (.cond (.t 25)
         .skip
         (.exit 0))
        (.seq
         (.block 1
          (.seq
           (.reg [
             .op (some 26) none (.idxa 1) [.t 22, .t 24],
             .op (some 27) none (.load 1 false) [.t 26],
             .op (some 4) none .mv [.t 27]])
           (.seq
            (.reg [
              .op (some 28) none .mv [.t 4],
              .dyn (some 29) none (.t 28) [],
              .op (some 5) none .mv [.t 29]])
            (.seq
             (.reg [
               .op (some 30) none .mv [.t 5],
               .op (some 31) none (.nileq 0 true) [.t 30]])
             (.cond (.t 31)
              (.seq
               (.draw [
                 .op (some 32) none .mv [.t 0],
                 .op (some 33) none .nilck [.t 32],
                 .op (some 34) none (.faddr 12) [.t 33],
                 .op (some 35) none (.faddr 8) [.t 34],
                 .op (some 36) none (.load 1 false) [.t 35],
                 .op (some 37) none .mv [.t 0],
                 .op (some 38) none .nilck [.t 37],
                 .op (some 39) none (.faddr 12) [.t 38],
                 .op (some 40) none (.faddr 9) [.t 39],
                 .op (some 41) none (.load 1 false) [.t 40],
                 .op (some 42) none .mv [.t 5],
                 .call (some 43) none 67 [.t 36, .t 41, .t 42],
                 .op (some 2) none .mv [.t 43]]
                 [[], [0], [1, 0], [2, 1, 0], [3, 2, 1, 0], [], [5], [6, 5], [7, 6, 5], [8, 7, 6, 5], [], [4, 3, 2, 1, 0, 9, 8, 7, 6, 5, 10], [11, 4, 3, 2, 1, 0, 9, 8, 7, 6, 5, 10]])
               .ret)
              .skip)))))
         (.reg [
           .op (some 44) none (.bin .add) [.t 24, .c (.int .i64 1)],
           .op (some 24) none .mv [.t 44]])))))))
   (.seq
    (.reg [
      .op (some 2) none .mv [.c (.raw .nilIface)]])
    .ret)))⟩
set_option maxRecDepth 100000 in
theorem af167 : compF Tryz.prog 167 = some AF167 := by kernel_rfl

/-- Function 168. -/
def AF168 : AF := ⟨9, [.tmp 4],
 (.seq
  (.reg [
    .op (some 4) none .mv [.c (.bool false)]])
  (.seq
   (.reg [
     .op (some 5) none .mv [.t 0],
     .op (some 6) none .mv [.t 1],
     .call (some 7) none 63 [.t 5, .t 6],
     .op (some 8) none (.bin .geq) [.t 7, .c (.int .i64 0)],
     .op (some 4) none .mv [.t 8]])
   .ret))⟩
set_option maxRecDepth 100000 in
theorem af168 : compF Tryz.prog 168 = some AF168 := by kernel_rfl

/-- Function 170. -/
def AF170 : AF := ⟨148, [],
 (.seq
  (.reg [
    .op (some 10) none .mv [.c (.bool true)]])
  (.seq
   (.reg [
     .op (some 11) none .mv [.c (.bool true)]])
   (.block 0
    (.loop
     (.block 1
      (.seq
       (.reg [
         .op (some 21) none .mv [.t 2],
         .op (some 22) none .mv [.t 1],
         .op (some 23) none (.bin .sub) [.t 21, .t 22],
         .op (some 12) none .mv [.t 23]])
       (.seq
        (.seq
         (.reg [
           .op (some 24) none .mv [.t 12],
           .op (some 25) none (.bin .leq) [.t 24, .c (.int .i64 12)]])
         (.cond (.t 25)
          (.seq
           (.reg [
             .op (some 26) none .mv [.t 0],
             .op (some 27) none .mv [.t 1],
             .op (some 28) none .mv [.t 2],
             .op (some 29) none .mv [.t 4],
             .call (some 30) none 215 [.t 26, .t 27, .t 28, .t 29]])
           .ret)
          .skip))
        (.seq
         (.seq
          (.reg [
            .op (some 31) none .mv [.t 3],
            .op (some 32) none (.bin .eql) [.t 31, .c (.int .i64 0)]])
          (.cond (.t 32)
           (.seq
            (.reg [
              .op (some 33) none .mv [.t 0],
              .op (some 34) none .mv [.t 1],
              .op (some 35) none .mv [.t 2],
              .op (some 36) none .mv [.t 4],
              .call (some 37) none 216 [.t 33, .t 34, .t 35, .t 36]])
            .ret)
           .skip))
         (.seq
          (.seq
           (.reg [
             .op (some 38) none .mv [.t 10],
             .op (some 39) none (.un .not) [.t 38]])
           (.cond (.t 39)
            (.seq
             (.reg [
               .op (some 40) none .mv [.t 0],
               .op (some 41) none .mv [.t 1],
               .op (some 42) none .mv [.t 2],
               .op (some 43) none .mv [.t 4],
               .call (some 44) none 217 [.t 40, .t 41, .t 42, .t 43]])
             (.reg [
               .op (some 45) none .mv [.t 3],
               .op (some 46) none (.bin .sub) [.t 45, .c (.int .i64 1)],
               .op (some 3) none .mv [.t 46]]))
            .skip))
          (.seq
           (.reg [
             .op (some 48) none .mv [.t 0],
             .op (some 49) none .mv [.t 1],
             .op (some 50) none .mv [.t 2],
             .op (some 51) none .mv [.t 4],
             .call (some 52) none 218 [.t 48, .t 49, .t 50, .t 51],
             .op (some 47) none .mv [.t 52],
             .op (some 53) none (.ext 0) [.t 47],
             .op (some 54) none (.ext 1) [.t 47],
             .op (some 13) none .mv [.t 53],
             .op (some 14) none .mv [.t 54]])
           (.seq
            (.seq
             (.reg [
               .op (some 55) none .mv [.t 14],
               .op (some 56) none (.bin .eql) [.t 55, .c (.int .i64 2)]])
             (.cond (.t 56)
              (.seq
               (.reg [
                 .op (some 57) none .mv [.t 0],
                 .op (some 58) none .mv [.t 1],
                 .op (some 59) none .mv [.t 2],
                 .op (some 60) none .mv [.t 4],
                 .call (some 61) none 219 [.t 57, .t 58, .t 59, .t 60]])
               (.seq
                (.reg [
                  .op (some 62) none .mv [.t 2],
                  .op (some 63) none (.bin .sub) [.t 62, .c (.int .i64 1)],
                  .op (some 64) none .mv [.t 13],
                  .op (some 65) none .mv [.t 1],
                  .op (some 66) none (.bin .sub) [.t 64, .t 65],
                  .op (some 67) none (.bin .sub) [.t 63, .t 66],
                  .op (some 13) none .mv [.t 67]])
                (.reg [
                  .op (some 14) none .mv [.c (.int .i64 1)]])))
              .skip))
            (.seq
             (.seq
              (.reg [
                .op (some 68) none .mv [.t 10],
                .op (some 69) none .mv [.t 68],
                .op (some 70) (some (69, true)) .mv [.t 11],
                .op (some 71) none .pick [.t 69, .t 70, .c (.bool false)],
                .op (some 72) none .mv [.t 71],
                .op (some 73) (some (72, true)) .mv [.t 14],
                .op (some 74) (some (72, true)) (.bin .eql) [.t 73, .c (.int .i64 1)],
                .op (some 75) none .pick [.t 72, .t 74, .c (.bool false)]])
              (.cond (.t 75)
               (.seq
                (.reg [
                  .op (some 76) none .mv [.t 0],
                  .op (some 77) none .mv [.t 1],
                  .op (some 78) none .mv [.t 2],
                  .op (some 79) none .mv [.t 4],
                  .call (some 80) none 220 [.t 76, .t 77, .t 78, .t 79]])
                (.cond (.t 80)
                 .ret
                 .skip))
               .skip))
             (.seq
              (.seq
               (.draw [
                 .op (some 81) none .mv [.t 1],
                 .op (some 82) none (.bin .gtr) [.t 81, .c (.int .i64 0)],
                 .op (some 83) none .mv [.t 82],
                 .op (some 84) (some (83, true)) .mv [.t 4],
                 .op (some 85) (some (83, true)) .mv [.t 0],
                 .op (some 86) (some (83, true)) .mv [.t 1],
                 .op (some 87) (some (83, true)) (.bin .sub) [.t 86, .c (.int .i64 1)],
                 .op (some 88) (some (83, true)) (.idxa 9) [.t 85, .t 87],
                 .op (some 89) (some (83, true)) (.load 9 true) [.t 88],
                 .op (some 90) (some (83, true)) .mv [.t 0],
                 .op (some 91) (some (83, true)) .mv [.t 13],
                 .op (some 92) (some (83, true)) (.idxa 9) [.t 90, .t 91],
                 .op (some 93) (some (83, true)) (.load 9 true) [.t 92],
                 .dyn (some 94) (some (83, true)) (.t 84) [.t 89, .t 93],
                 .op (some 95) (some (83, true)) (.bin .lss) [.t 94, .c (.int .i64 0)],
                 .op (some 96) (some (83, true)) (.un .not) [.t 95],
                 .op (some 97) none .pick [.t 83, .t 96, .c (.bool false)]]
                 [[], [0], [1, 0], [2, 1, 0], [2, 1, 0], [2, 1, 0], [5, 2, 1, 0], [4, 6, 5, 2, 1, 0], [7, 4, 6, 5, 2, 1, 0], [2, 1, 0], [2, 1, 0], [9, 10, 2, 1, 0], [11, 9, 10, 2, 1, 0], [3, 8, 7, 4, 6, 5, 12, 11, 9, 10, 2, 1, 0], [13, 3, 8, 7, 4, 6, 5, 12, 11, 9, 10, 2, 1, 0], [14, 13, 3, 8, 7, 4, 6, 5, 12, 11, 9, 10, 2, 1, 0], [15, 14, 13, 3, 8, 7, 4, 6, 5, 12, 11, 9, 10, 2, 1, 0]])
               (.cond (.t 97)
                (.seq
                 (.reg [
                   .op (some 98) none .mv [.t 0],
                   .op (some 99) none .mv [.t 1],
                   .op (some 100) none .mv [.t 2],
                   .op (some 101) none .mv [.t 13],
                   .op (some 102) none .mv [.t 4],
                   .call (some 103) none 221 [.t 98, .t 99, .t 100, .t 101, .t 102],
                   .op (some 15) none .mv [.t 103]])
                 (.seq
                  (.reg [
                    .op (some 104) none .mv [.t 15],
                    .op (some 1) none .mv [.t 104]])
                  (.exit 1)))
                .skip))
              (.seq
               (.reg [
                 .op (some 106) none .mv [.t 0],
                 .op (some 107) none .mv [.t 1],
                 .op (some 108) none .mv [.t 2],
                 .op (some 109) none .mv [.t 13],
                 .op (some 110) none .mv [.t 4],
                 .call (some 111) none 222 [.t 106, .t 107, .t 108, .t 109, .t 110],
                 .op (some 105) none .mv [.t 111],
                 .op (some 112) none (.ext 0) [.t 105],
                 .op (some 113) none (.ext 1) [.t 105],
                 .op (some 16) none .mv [.t 112],
                 .op (some 17) none .mv [.t 113]])
               (.seq
                (.reg [
                  .op (some 114) none .mv [.t 17],
                  .op (some 11) none .mv [.t 114]])
                (.seq
                 (.reg [
                   .op (some 115) none .mv [.t 16],
                   .op (some 116) none .mv [.t 1],
                   .op (some 117) none (.bin .sub) [.t 115, .t 116],
                   .op (some 118) none .mv [.t 2],
                   .op (some 119) none .mv [.t 16],
                   .op (some 120) none (.bin .sub) [.t 118, .t 119],
                   .op (some 18) none .mv [.t 117],
                   .op (some 19) none .mv [.t 120]])
                 (.seq
                  (.reg [
                    .op (some 121) none .mv [.t 12],
                    .op (some 122) none (.bin .quo) [.t 121, .c (.int .i64 8)],
                    .op (some 20) none .mv [.t 122]])
                  (.seq
                   (.reg [
                     .op (some 123) none .mv [.t 18],
                     .op (some 124) none .mv [.t 19],
                     .op (some 125) none (.bin .lss) [.t 123, .t 124]])
                   (.cond (.t 125)
                    (.seq
                     (.reg [
                       .op (some 126) none .mv [.t 18],
                       .op (some 127) none .mv [.t 20],
                       .op (some 128) none (.bin .geq) [.t 126, .t 127],
                       .op (some 10) none .mv [.t 128]])
                     (.seq
                      (.reg [
                        .op (some 129) none .mv [.t 0],
                        .op (some 130) none .mv [.t 1],
                        .op (some 131) none .mv [.t 16],
                        .op (some 132) none .mv [.t 3],
                        .op (some 133) none .mv [.t 4],
                        .call (some 134) none 170 [.t 129, .t 130, .t 131, .t 132, .t 133]])
                      (.reg [
                        .op (some 135) none .mv [.t 16],
                        .op (some 136) none (.bin .add) [.t 135, .c (.int .i64 1)],
                        .op (some 1) none .mv [.t 136]])))
                    (.seq
                     (.reg [
                       .op (some 137) none .mv [.t 19],
                       .op (some 138) none .mv [.t 20],
                       .op (some 139) none (.bin .geq) [.t 137, .t 138],
                       .op (some 10) none .mv [.t 139]])
                     (.seq
                      (.reg [
                        .op (some 140) none .mv [.t 0],
                        .op (some 141) none .mv [.t 16],
                        .op (some 142) none (.bin .add) [.t 141, .c (.int .i64 1)],
                        .op (some 143) none .mv [.t 2],
                        .op (some 144) none .mv [.t 3],
                        .op (some 145) none .mv [.t 4],
                        .call (some 146) none 170 [.t 140, .t 142, .t 143, .t 144, .t 145]])
                      (.reg [
                        .op (some 147) none .mv [.t 16],
                        .op (some 2) none .mv [.t 147]]))))))))))))))))))))))⟩
set_option maxRecDepth 100000 in
theorem af170 : compF Tryz.prog 170 = some AF170 := by kernel_rfl

/-- Function 171. -/
def AF171 : AF := ⟨8, [.tmp 2],
 (.seq
  (.reg [
    .op (some 2) none .mv [.c (.int .i64 0)]])
  (.seq
   (.cond (.c (.bool false))
    (.seq
     (.reg [
       .op (some 3) none .mv [.t 0],
       .op (some 4) none (.conv .u32) [.t 3],
       .call (some 5) none 223 [.t 4],
       .op (some 2) none .mv [.t 5]])
     .ret)
    .skip)
   (.seq
    (.reg [
      .op (some 6) none .mv [.t 0],
      .call (some 7) none 224 [.t 6],
      .op (some 2) none .mv [.t 7]])
    .ret)))⟩
set_option maxRecDepth 100000 in
theorem af171 : compF Tryz.prog 171 = some AF171 := by kernel_rfl

/-- Function 175. -/
def AF175 : AF := ⟨37, [.tmp 2],
 (.seq
  (.reg [
    .op (some 1) none .box [.t 0],
    .op (some 2) none .mv [.c (.bool false)]])
  (.seq
   (.reg [
     .op (some 4) none (.load 7 true) [.t 1],
     .call (some 5) none 225 [.t 4],
     .op (some 3) none .box [.c (.agg [(.int .i64 0), (.int .u64 0), (.str []), (.raw (.slice none 0 0)), (.str []), (.raw (.slice none 0 0)), (.raw (.slice none 0 0))])],
     .op none none (.store 7) [.t 3, .t 5]])
   (.seq
    (.reg [
      .op (some 6) none (.faddr 1) [.t 3],
      .op (some 7) none (.load 1 false) [.t 6],
      .op (some 8) none (.bin .eql) [.t 7, .c (.int .u64 0)],
      .op (some 9) none .mv [.t 8],
      .op (some 10) (some (9, true)) (.faddr 2) [.t 3],
      .op (some 11) (some (9, true)) (.load 1 false) [.t 10],
      .op (some 12) (some (9, true)) (.bin .eql) [.t 11, .c (.str [])],
      .op (some 13) none .pick [.t 9, .t 12, .c (.bool false)],
      .op (some 14) none .mv [.t 13],
      .op (some 15) (some (14, true)) (.faddr 3) [.t 3],
      .op (some 16) (some (14, true)) (.load 1 false) [.t 15],
      .op (some 17) (some (14, true)) .len [.t 16],
      .op (some 18) (some (14, true)) (.bin .eql) [.t 17, .c (.int .i64 0)],
      .op (some 19) none .pick [.t 14, .t 18, .c (.bool false)],
      .op (some 20) none .mv [.t 19],
      .op (some 21) (some (20, true)) (.faddr 4) [.t 3],
      .op (some 22) (some (20, true)) (.load 1 false) [.t 21],
      .op (some 23) (some (20, true)) (.bin .eql) [.t 22, .c (.str [])],
      .op (some 24) none .pick [.t 20, .t 23, .c (.bool false)],
      .op (some 25) none .mv [.t 24],
      .op (some 26) (some (25, true)) (.faddr 5) [.t 3],
      .op (some 27) (some (25, true)) (.load 1 false) [.t 26],
      .op (some 28) (some (25, true)) .len [.t 27],
      .op (some 29) (some (25, true)) (.bin .eql) [.t 28, .c (.int .i64 0)],
      .op (some 30) none .pick [.t 25, .t 29, .c (.bool false)],
      .op (some 31) none .mv [.t 30],
      .op (some 32) (some (31, true)) (.faddr 6) [.t 3],
      .op (some 33) (some (31, true)) (.load 1 false) [.t 32],
      .op (some 34) (some (31, true)) .len [.t 33],
      .op (some 35) (some (31, true)) (.bin .eql) [.t 34, .c (.int .i64 0)],
      .op (some 36) none .pick [.t 31, .t 35, .c (.bool false)],
      .op (some 2) none .mv [.t 36]])
    .ret)))⟩
set_option maxRecDepth 100000 in
theorem af175 : compF Tryz.prog 175 = some AF175 := by kernel_rfl

/-- Function 176. -/
def AF176 : AF := ⟨36, [.tmp 2],
 (.seq
  (.reg [
    .op (some 2) none .mv [.c (.bool false)]])
  (.seq
   (.reg [
     .op (some 3) none .mv [.c (.int .i64 0)]])
   (.seq
    (.seq
     (.reg [
       .op (some 6) none .mv [.t 0],
       .op (some 7) none .len [.t 6],
       .op (some 8) none .mv [.c (.int .i64 0)]])
     (.block 0
      (.loop
       (.seq
        (.reg [
          .op (some 9) none (.bin .lss) [.t 8, .t 7]])
        (.seq
         (.cond (.t 9)
          .skip
          (.exit 0))
         (.seq
          (.block 1
           (.seq
            (.reg [
              .op (some 10) none (.idxa 8) [.t 6, .t 8],
              .op (some 11) none (.load 8 true) [.t 10],
              .op (some 5) none .box [.c (.agg [(.int .i64 0), (.int .i64 0), (.int .u64 0), (.str []), (.raw (.slice none 0 0)), (.str []), (.raw (.slice none 0 0)), (.raw (.slice none 0 0))])],
              .op none none (.store 8) [.t 5, .t 11]])
            (.seq
             (.seq
              (.reg [
                .op (some 12) none (.faddr 0) [.t 5],
                .op (some 13) none (.load 1 false) [.t 12],
                .op (some 14) none .mv [.t 3],
                .op (some 15) none (.bin .leq) [.t 13, .t 14],
                .op (some 16) none .mv [.t 15],
                .op (some 17) (some (16, false)) (.faddr 0) [.t 5],
                .op (some 18) (some (16, false)) (.load 1 false) [.t 17],
                .op (some 19) (some (16, false)) (.bin .gtr) [.t 18, .c (.int .i64 536870911)],
                .op (some 20) none .pick [.t 16, .c (.bool true), .t 19],
                .op (some 21) none .mv [.t 20],
                .op (some 22) (some (21, false)) (.faddr 1) [.t 5],
                .op (some 23) (some (21, false)) (.faddr 0) [.t 22],
                .op (some 24) (some (21, false)) (.load 1 false) [.t 23],
                .op (some 25) (some (21, false)) (.bin .eql) [.t 24, .c (.int .i64 0)],
                .op (some 26) none .pick [.t 21, .c (.bool true), .t 25],
                .op (some 27) none .mv [.t 26],
                .op (some 28) (some (27, false)) (.faddr 1) [.t 5],
                .op (some 29) (some (27, false)) (.load 7 true) [.t 28],
                .call (some 30) (some (27, false)) 129 [.t 29],
                .op (some 31) (some (27, false)) (.un .not) [.t 30],
                .op (some 32) none .pick [.t 27, .c (.bool true), .t 31]])
              (.cond (.t 32)
               (.seq
                (.reg [
                  .op (some 2) none .mv [.c (.bool false)]])
                .ret)
               .skip))
             (.reg [
               .op (some 33) none (.faddr 0) [.t 5],
               .op (some 34) none (.load 1 false) [.t 33],
               .op (some 3) none .mv [.t 34]]))))
          (.reg [
            .op (some 35) none (.bin .add) [.t 8, .c (.int .i64 1)],
            .op (some 8) none .mv [.t 35]])))))))
    (.seq
     (.reg [
       .op (some 2) none .mv [.c (.bool true)]])
     .ret))))⟩
set_option maxRecDepth 100000 in
theorem af176 : compF Tryz.prog 176 = some AF176 := by kernel_rfl

/-- Function 181. -/
def AF181 : AF := ⟨8, [.tmp 2],
 (.seq
  (.reg [
    .op (some 2) none .mv [.c (.raw .nilFunc)]])
  (.seq
   (.seq
    (.reg [
      .op (some 3) none .mv [.t 0]])
    (.block 0
     (.seq
      (.reg [
        .op (some 5) none (.bin .eql) [.t 3, .c (.int .i64 3)],
        .op (some 4) none .mv [.t 5]])
      (.cond (.t 4)
       (.seq
        (.reg [
          .op (some 2) none .mv [.c (.fn (.func 228) [] [])]])
        .ret)
       (.seq
        (.reg [
          .op (some 7) none (.bin .eql) [.t 3, .c (.int .i64 4)],
          .op (some 6) none .mv [.t 7]])
        (.cond (.t 6)
         (.seq
          (.reg [
            .op (some 2) none .mv [.c (.fn (.func 229) [] [])]])
          .ret)
         .skip))))))
   (.seq
    (.reg [
      .op (some 2) none .mv [.c (.fn (.func 230) [] [])]])
    .ret)))⟩
set_option maxRecDepth 100000 in
theorem af181 : compF Tryz.prog 181 = some AF181 := by kernel_rfl

/-- Function 182. -/
def AF182 : AF := ⟨34, [.tmp 6],
 (.seq
  (.reg [
    .op (some 3) none .box [.t 0],
    .op (some 6) none .mv [.c (.raw .nilIface)]])
  (.seq
   (.reg [
     .op (some 12) none .mv [.t 2],
     .op (some 13) none .s2b [.t 12],
     .call (some 14) none 231 [.t 13],
     .op (some 11) none .mv [.t 14],
     .op (some 15) none (.ext 0) [.t 11],
     .op (some 16) none (.ext 1) [.t 11],
     .op (some 7) none .mv [.t 15],
     .op (some 8) none .mv [.t 16]])
   (.seq
    (.seq
     (.reg [
       .op (some 17) none .mv [.t 8],
       .op (some 18) none (.nileq 0 true) [.t 17]])
     (.cond (.t 18)
      (.seq
       (.reg [
         .op (some 19) none .mv [.t 8],
         .op (some 6) none .mv [.t 19]])
       .ret)
      .skip))
    (.seq
     (.seq
      (.reg [
        .op (some 20) none .mv [.t 7],
        .op (some 21) none .len [.t 20],
        .op (some 22) none .mv [.c (.int .i64 0)]])
      (.block 0
       (.loop
        (.seq
         (.reg [
           .op (some 23) none (.bin .lss) [.t 22, .t 21]])
         (.seq
          (.cond (.t 23)
           .skip
           (.exit 0))
          (.seq
           (.block 1
            (.seq
             (.reg [
               .op (some 24) none (.idxa 5) [.t 20, .t 22],
               .op (some 25) none (.load 5 true) [.t 24],
               .op (some 10) none .box [.c (.agg [(.int .i64 0), (.int .i64 0), (.int .u64 0), (.str []), (.str [])])],
               .op none none (.store 5) [.t 10, .t 25]])
             (.seq
              (.reg [
                .op (some 26) none (.faddr 0) [.t 3],
                .op (some 27) none (.load 2 true) [.t 26],
                .op (some 28) none .mv [.t 1],
                .op (some 29) none (.faddr 0) [.t 10],
                .op (some 30) none (.load 2 true) [.t 29],
                .call (some 31) none 232 [.t 27, .t 28, .t 30]])
              (.cond (.t 31)
               (.seq
                (.reg [
                  .op (some 32) none (.load 1 false) [.g 9],
                  .op (some 6) none .mv [.t 32]])
                .ret)
               .skip))))
           (.reg [
             .op (some 33) none (.bin .add) [.t 22, .c (.int .i64 1)],
             .op (some 22) none .mv [.t 33]])))))))
     (.seq
      (.reg [
        .op (some 6) none .mv [.c (.raw .nilIface)]])
      .ret)))))⟩
set_option maxRecDepth 100000 in
theorem af182 : compF Tryz.prog 182 = some AF182 := by kernel_rfl

/-- Function 183. -/
def AF183 : AF := ⟨8, [.tmp 3],
 (.seq
  (.reg [
    .op (some 2) none .box [.t 0],
    .op (some 3) none .mv [.c (.bool false)]])
  (.seq
   (.reg [
     .op (some 4) none (.faddr 1) [.t 2],
     .op (some 5) none (.load 1 false) [.t 4],
     .op (some 6) none (.load 1 false) [.t 1],
     .op (some 7) none (.bin .eql) [.t 5, .t 6],
     .op (some 3) none .mv [.t 7]])
   .ret))⟩
set_option maxRecDepth 100000 in
theorem af183 : compF Tryz.prog 183 = some AF183 := by kernel_rfl

/-- Function 186. -/
def AF186 : AF := ⟨15, [],
 (.seq
  (.reg [
    .op (some 4) none .box [.t 1],
    .op (some 5) none .box [.t 2]])
  (.reg [
    .op (some 6) none .mv [.t 0],
    .op (some 7) none (.faddr 1) [.t 4],
    .op (some 8) none (.load 1 false) [.t 7],
    .op (some 9) none (.faddr 3) [.t 4],
    .op (some 10) none (.load 1 false) [.t 9],
    .op (some 11) none (.faddr 4) [.t 4],
    .op (some 12) none (.load 1 false) [.t 11],
    .op (some 13) none (.load 7 true) [.t 5],
    .call (some 14) none 236 [.t 6, .t 8, .t 10, .t 12, .t 13]]))⟩
set_option maxRecDepth 100000 in
theorem af186 : compF Tryz.prog 186 = some AF186 := by kernel_rfl

/-- Function 201. -/
def AF201 : AF := ⟨8, [.tmp 3],
 (.seq
  (.reg [
    .op (some 3) none .mv [.c (.bool false)]])
  (.seq
   (.draw [
     .op (some 4) none .mv [.t 0],
     .call (some 5) none 202 [.t 4],
     .op (some 6) none (.load 1 false) [.t 1],
     .op (some 7) none (.bin .lss) [.t 5, .t 6],
     .op (some 3) none .mv [.t 7]]
     [[], [0], [], [1, 0, 2], [3, 1, 0, 2]])
   .ret))⟩
set_option maxRecDepth 100000 in
theorem af201 : compF Tryz.prog 201 = some AF201 := by kernel_rfl

/-- Function 202. -/
def AF202 : AF := ⟨16, [.tmp 2],
 (.seq
  (.reg [
    .op (some 2) none .mv [.c (.int .i64 0)]])
  (.seq
   (.seq
    (.reg [
      .op (some 5) none .mv [.t 0],
      .call (some 6) none 96 [.c (.str [48, 49, 50, 51, 52, 53, 54, 55, 56, 57, 97, 98, 99, 100, 101, 102]), .t 5],
      .op (some 3) none .mv [.t 6]])
    (.seq
     (.reg [
       .op (some 7) none .mv [.t 3],
       .op (some 8) none (.bin .geq) [.t 7, .c (.int .i64 0)]])
     (.cond (.t 8)
      (.seq
       (.reg [
         .op (some 9) none .mv [.t 3],
         .op (some 2) none .mv [.t 9]])
       .ret)
      .skip)))
   (.seq
    (.seq
     (.reg [
       .op (some 10) none .mv [.t 0],
       .call (some 11) none 96 [.c (.str [65, 66, 67, 68, 69, 70]), .t 10],
       .op (some 4) none .mv [.t 11]])
     (.seq
      (.reg [
        .op (some 12) none .mv [.t 4],
        .op (some 13) none (.bin .geq) [.t 12, .c (.int .i64 0)]])
      (.cond (.t 13)
       (.seq
        (.reg [
          .op (some 14) none .mv [.t 4],
          .op (some 15) none (.bin .add) [.c (.int .i64 10), .t 14],
          .op (some 2) none .mv [.t 15]])
        .ret)
       .skip)))
    (.seq
     (.reg [
       .op (some 2) none .mv [.c (.int .i64 16)]])
     .ret))))⟩
set_option maxRecDepth 100000 in
theorem af202 : compF Tryz.prog 202 = some AF202 := by kernel_rfl

/-- Function 203. -/
def AF203 : AF := ⟨26, [.tmp 6, .tmp 7],
 (.seq
  (.reg [
    .op (some 6) none .mv [.c (.int .u64 0)],
    .op (some 7) none .mv [.c (.raw .nilIface)]])
  (.seq
   (.reg [
     .op (some 11) none .mv [.t 0],
     .op (some 12) none .mv [.t 1],
     .op (some 13) none .mv [.t 2],
     .call (some 14) none 241 [.t 11, .t 12, .t 13],
     .op (some 10) none .mv [.t 14],
     .op (some 15) none (.ext 0) [.t 10],
     .op (some 16) none (.ext 1) [.t 10],
     .op (some 8) none .mv [.t 15],
     .op (some 9) none .mv [.t 16]])
   (.seq
    (.seq
     (.reg [
       .op (some 17) none .mv [.t 9],
       .op (some 18) none (.nileq 0 true) [.t 17]])
     (.cond (.t 18)
      (.seq
       (.reg [
         .op (some 19) none .mv [.t 8],
         .op (some 20) none .mv [.t 0],
         .op (some 21) none .mv [.t 1],
         .op (some 22) none .mv [.t 2],
         .op (some 23) none .mv [.t 9],
         .call (some 24) none 242 [.c (.str [80, 97, 114, 115, 101, 85, 105, 110, 116]), .t 20, .t 21, .t 22, .t 23],
         .op (some 6) none .mv [.t 19],
         .op (some 7) none .mv [.t 24]])
       .ret)
      .skip))
    (.seq
     (.reg [
       .op (some 25) none .mv [.t 8],
       .op (some 6) none .mv [.t 25],
       .op (some 7) none .mv [.c (.raw .nilIface)]])
     .ret))))⟩
set_option maxRecDepth 100000 in
theorem af203 : compF Tryz.prog 203 = some AF203 := by kernel_rfl

/-- Function 204. -/
def AF204 : AF := ⟨55, [.tmp 4],
 (.seq
  (.reg [
    .op (some 4) none .mv [.c (.int .i64 0)]])
  (.seq
   (.seq
    (.reg [
      .op (some 11) none .mv [.t 1],
      .op (some 12) none (.bin .eql) [.t 11, .c (.str [])]])
    (.cond (.t 12)
     (.seq
      (.reg [
        .op (some 4) none .mv [.c (.int .i64 (-1))]])
      .ret)
     .skip))
   (.seq
    (.seq
     (.reg [
       .op (some 13) none .mv [.t 1],
       .op (some 14) none .slen [.t 13],
       .op (some 15) none (.bin .eql) [.t 14, .c (.int .i64 1)]])
     (.cond (.t 15)
      (.seq
       (.reg [
         .op (some 16) none .mv [.t 1],
         .op (some 17) none .idxs [.t 16, .c (.int .i64 0)],
         .op (some 18) none (.conv .i32) [.t 17],
         .op (some 5) none .mv [.t 18]])
       (.seq
        (.seq
         (.reg [
           .op (some 19) none .mv [.t 5],
           .op (some 20) none (.bin .geq) [.t 19, .c (.int .i32 128)]])
         (.cond (.t 20)
          (.reg [
            .op (some 5) none .mv [.c (.int .i32 65533)]])
          .skip))
        (.seq
         (.reg [
           .op (some 21) none .mv [.t 0],
           .op (some 22) none .mv [.t 5],
           .call (some 23) none 243 [.t 21, .t 22],
           .op (some 4) none .mv [.t 23]])
         .ret)))
      .skip))
    (.seq
     (.seq
      (.reg [
        .op (some 24) none .mv [.t 0],
        .op (some 25) none .slen [.t 24],
        .call (some 26) none 244 [.t 25]])
      (.cond (.t 26)
       (.seq
        (.reg [
          .op (some 28) none .mv [.t 1],
          .call (some 29) none 245 [.t 28],
          .op (some 27) none .mv [.t 29],
          .op (some 30) none (.ext 0) [.t 27],
          .op (some 31) none (.ext 1) [.t 27],
          .op (some 6) none .box [.c (.agg [(.bool false), (.bool false), (.bool false), (.bool false), (.bool false), (.bool false), (.bool false), (.bool false), (.bool false), (.bool false), (.bool false), (.bool false), (.bool false), (.bool false), (.bool false), (.bool false), (.bool false), (.bool false), (.bool false), (.bool false), (.bool false), (.bool false), (.bool false), (.bool false), (.bool false), (.bool false), (.bool false), (.bool false), (.bool false), (.bool false), (.bool false), (.bool false), (.bool false), (.bool false), (.bool false), (.bool false), (.bool false), (.bool false), (.bool false), (.bool false), (.bool false), (.bool false), (.bool false), (.bool false), (.bool false), (.bool false), (.bool false), (.bool false), (.bool false), (.bool false), (.bool false), (.bool false), (.bool false), (.bool false), (.bool false), (.bool false), (.bool false), (.bool false), (.bool false), (.bool false), (.bool false), (.bool false), (.bool false), (.bool false), (.bool false), (.bool false), (.bool false), (.bool false), (.bool false), (.bool false), (.bool false), (.bool false), (.bool false), (.bool false), (.bool false), (.bool false), (.bool false), (.bool false), (.bool false), (.bool false), (.bool false), (.bool false), (.bool false), (.bool false), (.bool false), (.bool false), (.bool false), (.bool false), (.bool false), (.bool false), (.bool false), (.bool false), (.bool false), (.bool false), (.bool false), (.bool false), (.bool false), (.bool false), (.bool false), (.bool false), (.bool false), (.bool false), (.bool false), (.bool false), (.bool false), (.bool false), (.bool false), (.bool false), (.bool false), (.bool false), (.bool false), (.bool false), (.bool false), (.bool false), (.bool false), (.bool false), (.bool false), (.bool false), (.bool false), (.bool false), (.bool false), (.bool false), (.bool false), (.bool false), (.bool false), (.bool false), (.bool false), (.bool false), (.bool false), (.bool false), (.bool false), (.bool false), (.bool false), (.bool false), (.bool false), (.bool false), (.bool false), (.bool false), (.bool false), (.bool false), (.bool false), (.bool false), (.bool false), (.bool false), (.bool false), (.bool false), (.bool false), (.bool false), (.bool false), (.bool false), (.bool false), (.bool false), (.bool false), (.bool false), (.bool false), (.bool false), (.bool false), (.bool false), (.bool false), (.bool false), (.bool false), (.bool false), (.bool false), (.bool false), (.bool false), (.bool false), (.bool false), (.bool false), (.bool false), (.bool false), (.bool false), (.bool false), (.bool false), (.bool false), (.bool false), (.bool false), (.bool false), (.bool false), (.bool false), (.bool false), (.bool false), (.bool false), (.bool false), (.bool false), (.bool false), (.bool false), (.bool false), (.bool false), (.bool false), (.bool false), (.bool false), (.bool false), (.bool false), (.bool false), (.bool false), (.bool false), (.bool false), (.bool false), (.bool false), (.bool false), (.bool false), (.bool false), (.bool false), (.bool false), (.bool false), (.bool false), (.bool false), (.bool false), (.bool false), (.bool false), (.bool false), (.bool false), (.bool false), (.bool false), (.bool false), (.bool false), (.bool false), (.bool false), (.bool false), (.bool false), (.bool false), (.bool false), (.bool false), (.bool false), (.bool false), (.bool false), (.bool false), (.bool false), (.bool false), (.bool false), (.bool false), (.bool false), (.bool false), (.bool false), (.bool false), (.bool false), (.bool false), (.bool false), (.bool false), (.bool false), (.bool false), (.bool false), (.bool false), (.bool false), (.bool false), (.bool false), (.bool false), (.bool false), (.bool false), (.bool false), (.bool false), (.bool false), (.bool false), (.bool false), (.bool false), (.bool false)])],
          .op none none (.store 256) [.t 6, .t 30],
          .op (some 7) none .mv [.t 31]])
        (.seq
         (.reg [
           .op (some 32) none .mv [.t 7]])
         (.cond (.t 32)
          (.seq
           (.seq
            (.reg [
              .op (some 8) none .mv [.c (.int .i64 0)]])
            (.block 0
             (.loop
              (.seq
               (.seq
                (.reg [
                  .op (some 33) none .mv [.t 8],
                  .op (some 34) none .mv [.t 0],
                  .op (some 35) none .slen [.t 34],
                  .op (some 36) none (.bin .lss) [.t 33, .t 35]])
                (.cond (.t 36)
                 .skip
                 (.exit 0)))
               (.seq
                (.block 1
                 (.seq
                  (.reg [
                    .op (some 39) none .mv [.t 0],
                    .op (some 40) none .mv [.t 8],
                    .op (some 41) none .idxs [.t 39, .t 40],
                    .call (some 42) none 246 [.t 6, .t 41]])
                  (.cond (.t 42)
                   (.seq
                    (.reg [
                      .op (some 43) none .mv [.t 8],
                      .op (some 4) none .mv [.t 43]])
                    .ret)
                   .skip)))
                (.reg [
                  .op (some 37) none .mv [.t 8],
                  .op (some 38) none (.bin .add) [.t 37, .c (.int .i64 1)],
                  .op (some 8) none .mv [.t 38]]))))))
           (.seq
            (.reg [
              .op (some 4) none .mv [.c (.int .i64 (-1))]])
            .ret))
          .skip)))
       .skip))
     (.seq
      (.seq
       (.reg [
         .op (some 44) none .mv [.t 0],
         .op (some 45) none .ranges [.t 44]])
       (.block 2
        (.loop
         (.seq
          (.reg [
            .op (some 46) none .nexts [.t 45],
            .op (some 47) none (.ext 0) [.t 46]])
          (.seq
           (.cond (.t 47)
            .skip
            (.exit 2))
           (.block 3
            (.seq
             (.reg [
               .op (some 48) none (.ext 1) [.t 46],
               .op (some 49) none (.ext 2) [.t 46],
               .op (some 9) none .mv [.t 48],
               .op (some 10) none .mv [.t 49]])
             (.seq
              (.reg [
                .op (some 50) none .mv [.t 1],
                .op (some 51) none .mv [.t 10],
                .call (some 52) none 243 [.t 50, .t 51],
                .op (some 53) none (.bin .geq) [.t 52, .c (.int .i64 0)]])
              (.cond (.t 53)
               (.seq
                (.reg [
                  .op (some 54) none .mv [.t 9],
                  .op (some 4) none .mv [.t 54]])
                .ret)
               .skip)))))))))
      (.seq
       (.reg [
         .op (some 4) none .mv [.c (.int .i64 (-1))]])
       .ret))))))⟩
set_option maxRecDepth 100000 in
theorem af204 : compF Tryz.prog 204 = some AF204 := by kernel_rfl

/-- Function 205. -/
def AF205 : AF := ⟨36, [.cell 4 102],
 (.seq
  (.reg [
    .op (some 3) none .box [.t 1],
    .op (some 4) none .box [.c (.agg [(.str []), (.str []), (.str []), (.str []), (.int .i64 0), (.int .i64 0), (.int .i64 0), (.int .i64 0), (.int .i64 0), (.int .i64 0)])]])
  (.seq
   (.reg [
     .op (some 6) none .mv [.t 0],
     .call (some 7) none 107 [.t 6],
     .op (some 5) none .box [.c (.agg [(.int .i64 0), (.str []), (.int .i64 0), (.int .i64 0), (.int .i64 0)])],
     .op none none (.store 5) [.t 5, .t 7]])
   (.seq
    (.draw [
      .op (some 8) none (.faddr 1) [.t 5],
      .op (some 9) none (.load 1 false) [.t 8],
      .op (some 10) none (.faddr 3) [.t 5],
      .op (some 11) none (.load 1 false) [.t 10],
      .op (some 12) none (.faddr 4) [.t 5],
      .op (some 13) none (.load 1 false) [.t 12],
      .op (some 14) none (.faddr 0) [.t 3],
      .op none none (.store 1) [.t 14, .t 9],
      .op (some 15) none (.faddr 8) [.t 3],
      .op none none (.store 1) [.t 15, .t 11],
      .op (some 16) none (.faddr 9) [.t 3],
      .op none none (.store 1) [.t 16, .t 13]]
      [[], [0], [], [2], [], [4], [1, 0], [6, 1, 0], [3, 2, 7, 6, 1, 0], [8, 3, 2, 7, 6, 1, 0], [5, 4, 9, 8, 3, 2, 7, 6, 1, 0], [10, 5, 4, 9, 8, 3, 2, 7, 6, 1, 0]])
    (.seq
     (.reg [
       .op (some 17) none .mv [.t 0],
       .call (some 18) none 102 [.t 17, .c (.str [61])]])
     (.seq
      (.reg [
        .op (some 19) none .mv [.t 0],
        .call (some 20) none 104 [.t 19, .c (.int .i64 2)],
        .op (some 21) none (.fld 2 1 false) [.t 20],
        .op (some 22) none (.faddr 5) [.t 3],
        .op none none (.store 1) [.t 22, .t 21]])
      (.seq
       (.seq
        (.reg [
          .op (some 23) none .mv [.t 0],
          .call (some 24) none 54 [.t 23, .c (.int .i64 4), .c (.str [91])]])
        (.cond (.t 24)
         (.seq
          (.reg [
            .op (some 25) none .mv [.t 0],
            .call (some 26) none 247 [.t 25, .t 3]])
          (.seq
           (.block 0
            (.loop
             (.seq
              (.seq
               (.reg [
                 .op (some 27) none .mv [.t 0],
                 .call (some 28) none 54 [.t 27, .c (.int .i64 4), .c (.str [44])]])
               (.cond (.t 28)
                .skip
                (.exit 0)))
              (.block 1
               (.reg [
                 .op (some 29) none .mv [.t 0],
                 .call (some 30) none 247 [.t 29, .t 3]])))))
           (.reg [
             .op (some 31) none .mv [.t 0],
             .call (some 32) none 102 [.t 31, .c (.str [93])]])))
         .skip))
       (.seq
        (.reg [
          .op (some 33) none .mv [.t 0],
          .call (some 34) none 102 [.t 33, .c (.str [59])]])
        (.seq
         (.reg [
           .op (some 35) none (.load 10 true) [.t 3],
           .op none none (.store 10) [.t 4, .t 35]])
         .ret))))))))⟩
set_option maxRecDepth 100000 in
theorem af205 : compF Tryz.prog 205 = some AF205 := by kernel_rfl

/-- Function 206. -/
def AF206 : AF := ⟨10, [.tmp 2],
 (.seq
  (.reg [
    .op (some 2) none .mv [.c (.str [])]])
  (.seq
   (.seq
    (.reg [
      .op (some 3) none .mv [.t 0],
      .call (some 4) none 54 [.t 3, .c (.int .i64 4), .c (.str [46])]])
    (.cond (.t 4)
     (.seq
      (.reg [
        .op (some 5) none .mv [.t 0],
        .call (some 6) none 105 [.t 5],
        .op (some 7) none (.bin .add) [.c (.str [46]), .t 6],
        .op (some 2) none .mv [.t 7]])
      .ret)
     .skip))
   (.seq
    (.reg [
      .op (some 8) none .mv [.t 0],
      .call (some 9) none 105 [.t 8],
      .op (some 2) none .mv [.t 9]])
    .ret)))⟩
set_option maxRecDepth 100000 in
theorem af206 : compF Tryz.prog 206 = some AF206 := by kernel_rfl

/-- Function 207. -/
def AF207 : AF := ⟨10, [.tmp 2],
 (.seq
  (.reg [
    .op (some 2) none .mv [.c (.raw .nilIface)]])
  (.seq
   (.seq
    (.reg [
      .op (some 3) none .mv [.t 0],
      .op (some 4) none .nilck [.t 3],
      .op (some 5) none (.faddr 11) [.t 4],
      .op (some 6) none (.load 1 false) [.t 5],
      .op (some 7) none .len [.t 6],
      .op (some 8) none (.bin .geq) [.t 7, .c (.int .i64 40)]])
    (.cond (.t 8)
     (.seq
      (.reg [
        .op (some 9) none (.load 1 false) [.g 0],
        .op (some 2) none .mv [.t 9]])
      .ret)
     .skip))
   (.seq
    (.reg [
      .op (some 2) none .mv [.c (.raw .nilIface)]])
    .ret)))⟩
set_option maxRecDepth 100000 in
theorem af207 : compF Tryz.prog 207 = some AF207 := by kernel_rfl

/-- Function 208. -/
def AF208 : AF := ⟨24, [.tmp 2],
 (.seq
  (.reg [
    .op (some 2) none .mv [.c (.raw .nilIface)]])
  (.seq
   (.reg [
     .op (some 4) none .mv [.t 0],
     .op (some 5) none .nilck [.t 4],
     .op (some 6) none (.faddr 12) [.t 5],
     .op (some 7) none (.faddr 5) [.t 6],
     .op (some 8) none (.load 1 false) [.t 7],
     .op (some 3) none .mv [.t 8]])
   (.seq
    (.seq
     (.reg [
       .op (some 9) none .mv [.t 3],
       .op (some 10) none (.bin .lss) [.t 9, .c (.int .i64 1)],
       .op (some 11) none .mv [.t 10],
       .op (some 12) (some (11, false)) .mv [.t 3],
       .op (some 13) (some (11, false)) (.bin .gtr) [.t 12, .c (.int .i64 536870911)],
       .op (some 14) none .pick [.t 11, .c (.bool true), .t 13],
       .op (some 15) none .mv [.t 14],
       .op (some 16) (some (15, false)) .mv [.t 3],
       .op (some 17) (some (15, false)) (.bin .geq) [.t 16, .c (.int .i64 19000)],
       .op (some 18) (some (15, false)) .mv [.t 17],
       .op (some 19) (some (18, true)) .mv [.t 3],
       .op (some 20) (some (18, true)) (.bin .leq) [.t 19, .c (.int .i64 19999)],
       .op (some 21) (some (15, false)) .pick [.t 18, .t 20, .c (.bool false)],
       .op (some 22) none .pick [.t 15, .c (.bool true), .t 21]])
     (.cond (.t 22)
      (.seq
       (.reg [
         .op (some 23) none (.load 1 false) [.g 6],
         .op (some 2) none .mv [.t 23]])
       .ret)
      .skip))
    (.seq
     (.reg [
       .op (some 2) none .mv [.c (.raw .nilIface)]])
     .ret))))⟩
set_option maxRecDepth 100000 in
theorem af208 : compF Tryz.prog 208 = some AF208 := by kernel_rfl

/-- Function 209. -/
def AF209 : AF := ⟨10, [.tmp 2],
 (.seq
  (.reg [
    .op (some 1) none .box [.t 0],
    .op (some 2) none .mv [.c (.raw .nilIface)]])
  (.seq
   (.seq
    (.reg [
      .op (some 3) none (.load 1 false) [.t 1],
      .op (some 4) none .nilck [.t 3],
      .op (some 5) none (.faddr 11) [.t 4],
      .op (some 6) none (.load 1 false) [.t 5],
      .op (some 7) none (.mkfn (.func 248) 0) [.t 1],
      .call (some 8) none 168 [.t 6, .t 7]])
    (.cond (.t 8)
     (.seq
      (.reg [
        .op (some 9) none (.load 1 false) [.g 4],
        .op (some 2) none .mv [.t 9]])
      .ret)
     .skip))
   (.seq
    (.reg [
      .op (some 2) none .mv [.c (.raw .nilIface)]])
    .ret)))⟩
set_option maxRecDepth 100000 in
theorem af209 : compF Tryz.prog 209 = some AF209 := by kernel_rfl

/-- Function 210. -/
def AF210 : AF := ⟨26, [.tmp 2],
 (.seq
  (.reg [
    .op (some 1) none .box [.t 0],
    .op (some 2) none .mv [.c (.raw .nilIface)]])
  (.seq
   (.reg [
     .op (some 4) none (.mkfn (.func 249) 0) [.t 1],
     .op (some 3) none .mv [.t 4]])
   (.seq
    (.seq
     (.draw [
       .op (some 5) none (.load 1 false) [.t 1],
       .op (some 6) none .nilck [.t 5],
       .op (some 7) none (.faddr 1) [.t 6],
       .op (some 8) none (.faddr 5) [.t 7],
       .op (some 9) none (.load 1 false) [.t 8],
       .op (some 10) none .mv [.t 3],
       .call (some 11) none 250 [.t 9, .t 10],
       .op (some 12) none .mv [.t 11],
       .op (some 13) (some (12, false)) (.load 1 false) [.t 1],
       .op (some 14) (some (12, false)) .nilck [.t 13],
       .op (some 15) (some (12, false)) (.faddr 1) [.t 14],
       .op (some 16) (some (12, false)) (.faddr 6) [.t 15],
       .op (some 17) (some (12, false)) (.load 1 false) [.t 16],
       .op (some 18) (some (12, false)) (.load 1 false) [.t 1],
       .op (some 19) (some (12, false)) .nilck [.t 18],
       .op (some 20) (some (12, false)) (.faddr 12) [.t 19],
       .op (some 21) (some (12, false)) (.faddr 0) [.t 20],
       .op (some 22) (some (12, false)) (.load 1 false) [.t 21],
       .call (some 23) (some (12, false)) 113 [.t 17, .t 22],
       .op (some 24) none .pick [.t 12, .c (.bool true), .t 23]]
       [[], [0], [1, 0], [2, 1, 0], [3, 2, 1, 0], [], [4, 3, 2, 1, 0, 5], [6, 4, 3, 2, 1, 0, 5], [7, 6, 4, 3, 2, 1, 0, 5], [8, 7, 6, 4, 3, 2, 1, 0, 5], [9, 8, 7, 6, 4, 3, 2, 1, 0, 5], [10, 9, 8, 7, 6, 4, 3, 2, 1, 0, 5], [11, 10, 9, 8, 7, 6, 4, 3, 2, 1, 0, 5], [7, 6, 4, 3, 2, 1, 0, 5], [13, 7, 6, 4, 3, 2, 1, 0, 5], [14, 13, 7, 6, 4, 3, 2, 1, 0, 5], [15, 14, 13, 7, 6, 4, 3, 2, 1, 0, 5], [16, 15, 14, 13, 7, 6, 4, 3, 2, 1, 0, 5], [12, 11, 10, 9, 8, 17, 16, 15, 14, 13, 7, 6, 4, 3, 2, 1, 0, 5], [18, 12, 11, 10, 9, 8, 17, 16, 15, 14, 13, 7, 6, 4, 3, 2, 1, 0, 5]])
     (.cond (.t 24)
      (.seq
       (.reg [
         .op (some 25) none (.load 1 false) [.g 1],
         .op (some 2) none .mv [.t 25]])
       .ret)
      .skip))
    (.seq
     (.reg [
       .op (some 2) none .mv [.c (.raw .nilIface)]])
     .ret))))⟩
set_option maxRecDepth 100000 in
theorem af210 : compF Tryz.prog 210 = some AF210 := by kernel_rfl

/-- Function 211. -/
def AF211 : AF := ⟨61, [.tmp 2],
 (.seq
  (.reg [
    .op (some 2) none .mv [.c (.raw .nilIface)]])
  (.seq
   (.seq
    (.reg [
      .op (some 8) none .mv [.t 0],
      .op (some 9) none .nilck [.t 8],
      .op (some 10) none (.faddr 12) [.t 9],
      .op (some 11) none (.faddr 1) [.t 10],
      .op (some 12) none (.load 1 false) [.t 11],
      .call (some 13) none 251 [.t 12],
      .op (some 7) none .mv [.t 13],
      .op (some 14) none (.ext 0) [.t 7],
      .op (some 15) none (.ext 1) [.t 7],
      .op (some 3) none .mv [.t 14],
      .op (some 4) none .mv [.t 15]])
    (.seq
     (.reg [
       .op (some 16) none .mv [.t 4]])
     (.cond (.t 16)
      (.seq
       (.reg [
         .op (some 17) none .mv [.t 0],
         .op (some 18) none .mv [.t 3],
         .op (some 19) none .nilck [.t 17],
         .op (some 20) none (.faddr 22) [.t 19],
         .op (some 21) none (.faddr 3) [.t 20],
         .op none none (.store 1) [.t 21, .t 18]])
       (.seq
        (.reg [
          .op (some 2) none .mv [.c (.raw .nilIface)]])
        .ret))
      .skip)))
   (.seq
    (.draw [
      .op (some 23) none .mv [.t 0],
      .op (some 24) none .nilck [.t 23],
      .op (some 25) none (.faddr 0) [.t 24],
      .op (some 26) none (.load 1 false) [.t 25],
      .op (some 27) none .nilck [.t 26],
      .op (some 28) none (.faddr 0) [.t 27],
      .op (some 29) none (.load 1 false) [.t 28],
      .op (some 30) none .mv [.t 0],
      .op (some 31) none .nilck [.t 30],
      .op (some 32) none (.faddr 10) [.t 31],
      .op (some 33) none (.load 1 false) [.t 32],
      .op (some 34) none .mv [.t 0],
      .op (some 35) none .nilck [.t 34],
      .op (some 36) none (.faddr 12) [.t 35],
      .op (some 37) none (.faddr 1) [.t 36],
      .op (some 38) none (.load 1 false) [.t 37],
      .call (some 39) none 252 [.t 29, .t 33, .t 38],
      .op (some 22) none .mv [.t 39],
      .op (some 40) none (.ext 0) [.t 22],
      .op (some 41) none (.ext 1) [.t 22],
      .op (some 5) none .box [.c (.agg [(.str []), (.bool false), (.int .i64 0), (.int .i64 0), (.int .i64 0)])],
      .op none none (.store 5) [.t 5, .t 40],
      .op (some 6) none .mv [.t 41]]
      [[], [0], [1, 0], [2, 1, 0], [3, 2, 1, 0], [4, 3, 2, 1, 0], [5, 4, 3, 2, 1, 0], [], [7], [8, 7], [9, 8, 7], [], [11], [12, 11], [13, 12, 11], [14, 13, 12, 11], [6, 5, 4, 3, 2, 1, 0, 10, 9, 8, 7, 15, 14, 13, 12, 11], [16, 6, 5, 4, 3, 2, 1, 0, 10, 9, 8, 7, 15, 14, 13, 12, 11], [17, 16, 6, 5, 4, 3, 2, 1, 0, 10, 9, 8, 7, 15, 14, 13, 12, 11], [17, 16, 6, 5, 4, 3, 2, 1, 0, 10, 9, 8, 7, 15, 14, 13, 12, 11], [], [18, 17, 16, 6, 5, 4, 3, 2, 1, 0, 10, 9, 8, 7, 15, 14, 13, 12, 11, 20], [19, 21, 18, 17, 16, 6, 5, 4, 3, 2, 1, 0, 10, 9, 8, 7, 15, 14, 13, 12, 11, 20]])
    (.seq
     (.seq
      (.reg [
        .op (some 42) none .mv [.t 6],
        .op (some 43) none (.un .not) [.t 42]])
      (.cond (.t 43)
       (.seq
        (.reg [
          .op (some 44) none (.load 1 false) [.g 2],
          .op (some 2) none .mv [.t 44]])
        .ret)
       .skip))
     (.seq
      (.draw [
        .op (some 45) none .mv [.t 0],
        .op (some 46) none .mv [.t 0],
        .op (some 47) none (.faddr 2) [.t 5],
        .op (some 48) none (.load 1 false) [.t 47],
        .op (some 49) none .nilck [.t 45],
        .op (some 50) none (.faddr 22) [.t 49],
        .op (some 51) none (.faddr 3) [.t 50],
        .op none none (.store 1) [.t 51, .c (.int .i64 17)],
        .op (some 52) none .nilck [.t 46],
        .op (some 53) none (.faddr 22) [.t 52],
        .op (some 54) none (.faddr 4) [.t 53],
        .op none none (.store 1) [.t 54, .t 48]]
        [[], [], [], [2], [0], [4, 0], [5, 4, 0], [6, 5, 4, 0], [1, 3, 2, 7, 6, 5, 4, 0], [8, 1, 3, 2, 7, 6, 5, 4, 0], [9, 8, 1, 3, 2, 7, 6, 5, 4, 0], [10, 9, 8, 1, 3, 2, 7, 6, 5, 4, 0]])
      (.seq
       (.seq
        (.reg [
          .op (some 55) none (.faddr 1) [.t 5],
          .op (some 56) none (.load 1 false) [.t 55]])
        (.cond (.t 56)
         (.reg [
           .op (some 57) none .mv [.t 0],
           .op (some 58) none .nilck [.t 57],
           .op (some 59) none (.faddr 22) [.t 58],
           .op (some 60) none (.faddr 3) [.t 59],
           .op none none (.store 1) [.t 60, .c (.int .i64 16)]])
         .skip))
       (.seq
        (.reg [
          .op (some 2) none .mv [.c (.raw .nilIface)]])
        .ret)))))))⟩
set_option maxRecDepth 100000 in
theorem af211 : compF Tryz.prog 211 = some AF211 := by kernel_rfl

/-- Function 212. -/
def AF212 : AF := ⟨33, [.tmp 2],
 (.seq
  (.reg [
    .op (some 2) none .mv [.c (.raw .nilIface)]])
  (.seq
   (.seq
    (.reg [
      .op (some 5) none .mv [.t 0],
      .op (some 6) none .nilck [.t 5],
      .op (some 7) none (.faddr 12) [.t 6],
      .op (some 8) none (.faddr 4) [.t 7],
      .op (some 9) none (.load 1 false) [.t 8],
      .op (some 10) none (.bin .neq) [.t 9, .c (.int .i64 4)]])
    (.cond (.t 10)
     (.seq
      (.reg [
        .op (some 2) none .mv [.c (.raw .nilIface)]])
      .ret)
     .skip))
   (.seq
    (.reg [
      .op (some 12) none .mv [.t 0],
      .op (some 13) none .nilck [.t 12],
      .op (some 14) none (.faddr 12) [.t 13],
      .op (some 15) none (.faddr 2) [.t 14],
      .op (some 16) none (.load 1 false) [.t 15],
      .call (some 17) none 251 [.t 16],
      .op (some 11) none .mv [.t 17],
      .op (some 18) none (.ext 0) [.t 11],
      .op (some 19) none (.ext 1) [.t 11],
      .op (some 3) none .mv [.t 18],
      .op (some 4) none .mv [.t 19]])
    (.seq
     (.seq
      (.reg [
        .op (some 20) none .mv [.t 4],
        .op (some 21) none (.un .not) [.t 20],
        .op (some 22) none .mv [.t 21],
        .op (some 23) (some (22, false)) .mv [.t 3],
        .call (some 24) (some (22, false)) 253 [.t 23],
        .op (some 25) (some (22, false)) (.un .not) [.t 24],
        .op (some 26) none .pick [.t 22, .c (.bool true), .t 25]])
      (.cond (.t 26)
       (.seq
        (.reg [
          .op (some 27) none (.load 1 false) [.g 12],
          .op (some 2) none .mv [.t 27]])
        .ret)
       .skip))
     (.seq
      (.reg [
        .op (some 28) none .mv [.t 0],
        .op (some 29) none .mv [.t 3],
        .op (some 30) none .nilck [.t 28],
        .op (some 31) none (.faddr 22) [.t 30],
        .op (some 32) none (.faddr 7) [.t 31],
        .op none none (.store 1) [.t 32, .t 29]])
      (.seq
       (.reg [
         .op (some 2) none .mv [.c (.raw .nilIface)]])
       .ret))))))⟩
set_option maxRecDepth 100000 in
theorem af212 : compF Tryz.prog 212 = some AF212 := by kernel_rfl

/-- Function 213. -/
def AF213 : AF := ⟨42, [.tmp 2],
 (.seq
  (.reg [
    .op (some 2) none .mv [.c (.raw .nilIface)]])
  (.seq
   (.reg [
     .op (some 4) none .mv [.t 0],
     .op (some 5) none .nilck [.t 4],
     .op (some 6) none (.faddr 12) [.t 5],
     .op (some 7) none (.faddr 4) [.t 6],
     .op (some 8) none (.load 1 false) [.t 7],
     .op (some 9) none (.bin .eql) [.t 8, .c (.int .i64 3)],
     .op (some 10) none .mv [.t 9],
     .op (some 11) (some (10, true)) .mv [.t 0],
     .op (some 12) (some (10, true)) .nilck [.t 11],
     .op (some 13) (some (10, true)) (.faddr 22) [.t 12],
     .op (some 14) (some (10, true)) (.faddr 3) [.t 13],
     .op (some 15) (some (10, true)) (.load 1 false) [.t 14],
     .call (some 16) (some (10, true)) 254 [.t 15],
     .op (some 17) none .pick [.t 10, .t 16, .c (.bool false)],
     .op (some 3) none .mv [.t 17]])
   (.seq
    (.seq
     (.reg [
       .op (some 18) none .mv [.t 3],
       .op (some 19) none (.un .not) [.t 18],
       .op (some 20) none .mv [.t 19],
       .op (some 21) (some (20, true)) .mv [.t 0],
       .op (some 22) (some (20, true)) .nilck [.t 21],
       .op (some 23) (some (20, true)) (.faddr 12) [.t 22],
       .op (some 24) (some (20, true)) (.faddr 6) [.t 23],
       .op (some 25) (some (20, true)) (.load 1 false) [.t 24],
       .op (some 26) (some (20, true)) (.bin .neq) [.t 25, .c (.int .i64 0)],
       .op (some 27) none .pick [.t 20, .t 26, .c (.bool false)]])
     (.cond (.t 27)
      (.seq
       (.reg [
         .op (some 28) none (.load 1 false) [.g 12],
         .op (some 2) none .mv [.t 28]])
       .ret)
      .skip))
    (.seq
     (.reg [
       .op (some 29) none .mv [.t 0],
       .op (some 30) none .mv [.t 3],
       .op (some 31) none .mv [.t 30],
       .op (some 32) (some (31, true)) .mv [.t 0],
       .op (some 33) (some (31, true)) .nilck [.t 32],
       .op (some 34) (some (31, true)) (.faddr 12) [.t 33],
       .op (some 35) (some (31, true)) (.faddr 6) [.t 34],
       .op (some 36) (some (31, true)) (.load 1 false) [.t 35],
       .op (some 37) (some (31, true)) (.bin .neq) [.t 36, .c (.int .i64 2)],
       .op (some 38) none .pick [.t 31, .t 37, .c (.bool false)],
       .op (some 39) none .nilck [.t 29],
       .op (some 40) none (.faddr 22) [.t 39],
       .op (some 41) none (.faddr 5) [.t 40],
       .op none none (.store 1) [.t 41, .t 38]])
     (.seq
      (.reg [
        .op (some 2) none .mv [.c (.raw .nilIface)]])
      .ret)))))⟩
set_option maxRecDepth 100000 in
theorem af213 : compF Tryz.prog 213 = some AF213 := by kernel_rfl

/-- Function 214. -/
def AF214 : AF := ⟨26, [.tmp 2],
 (.seq
  (.reg [
    .op (some 2) none .mv [.c (.raw .nilIface)]])
  (.seq
   (.seq
    (.reg [
      .op (some 3) none .mv [.t 0],
      .op (some 4) none .nilck [.t 3],
      .op (some 5) none (.faddr 12) [.t 4],
      .op (some 6) none (.faddr 3) [.t 5],
      .op (some 7) none (.load 1 false) [.t 6],
      .op (some 8) none (.bin .neq) [.t 7, .c (.str [])],
      .op (some 9) none .mv [.t 8],
      .op (some 10) (some (9, true)) .mv [.t 0],
      .op (some 11) (some (9, true)) .nilck [.t 10],
      .op (some 12) (some (9, true)) (.faddr 12) [.t 11],
      .op (some 13) (some (9, true)) (.faddr 4) [.t 12],
      .op (some 14) (some (9, true)) (.load 1 false) [.t 13],
      .op (some 15) (some (9, true)) (.bin .neq) [.t 14, .c (.int .i64 3)],
      .op (some 16) (some (9, true)) .mv [.t 15],
      .op (some 17) (some (16, false)) .mv [.t 0],
      .op (some 18) (some (16, false)) .nilck [.t 17],
      .op (some 19) (some (16, false)) (.faddr 22) [.t 18],
      .op (some 20) (some (16, false)) (.faddr 3) [.t 19],
      .op (some 21) (some (16, false)) (.load 1 false) [.t 20],
      .op (some 22) (some (16, false)) (.bin .neq) [.t 21, .c (.int .i64 17)],
      .op (some 23) (some (9, true)) .pick [.t 16, .c (.bool true), .t 22],
      .op (some 24) none .pick [.t 9, .t 23, .c (.bool false)]])
    (.cond (.t 24)
     (.seq
      (.reg [
        .op (some 25) none (.load 1 false) [.g 12],
        .op (some 2) none .mv [.t 25]])
      .ret)
     .skip))
   (.seq
    (.reg [
      .op (some 2) none .mv [.c (.raw .nilIface)]])
    .ret)))⟩
set_option maxRecDepth 100000 in
theorem af214 : compF Tryz.prog 214 = some AF214 := by kernel_rfl

/-- Function 215. -/
def AF215 : AF := ⟨53, [],
 (.seq
  (.reg [
    .op (some 10) none .mv [.t 1],
    .op (some 11) none (.bin .add) [.t 10, .c (.int .i64 1)],
    .op (some 8) none .mv [.t 11]])
  (.block 0
   (.loop
    (.seq
     (.seq
      (.reg [
        .op (some 12) none .mv [.t 8],
        .op (some 13) none .mv [.t 2],
        .op (some 14) none (.bin .lss) [.t 12, .t 13]])
      (.cond (.t 14)
       .skip
       (.exit 0)))
     (.seq
      (.block 1
       (.seq
        (.reg [
          .op (some 17) none .mv [.t 8],
          .op (some 9) none .mv [.t 17]])
        (.block 2
         (.loop
          (.seq
           (.seq
            (.draw [
              .op (some 18) none .mv [.t 9],
              .op (some 19) none .mv [.t 1],
              .op (some 20) none (.bin .gtr) [.t 18, .t 19],
              .op (some 21) none .mv [.t 20],
              .op (some 22) (some (21, true)) .mv [.t 3],
              .op (some 23) (some (21, true)) .mv [.t 0],
              .op (some 24) (some (21, true)) .mv [.t 9],
              .op (some 25) (some (21, true)) (.idxa 9) [.t 23, .t 24],
              .op (some 26) (some (21, true)) (.load 9 true) [.t 25],
              .op (some 27) (some (21, true)) .mv [.t 0],
              .op (some 28) (some (21, true)) .mv [.t 9],
              .op (some 29) (some (21, true)) (.bin .sub) [.t 28, .c (.int .i64 1)],
              .op (some 30) (some (21, true)) (.idxa 9) [.t 27, .t 29],
              .op (some 31) (some (21, true)) (.load 9 true) [.t 30],
              .dyn (some 32) (some (21, true)) (.t 22) [.t 26, .t 31],
              .op (some 33) (some (21, true)) (.bin .lss) [.t 32, .c (.int .i64 0)],
              .op (some 34) none .pick [.t 21, .t 33, .c (.bool false)]]
              [[], [], [0, 1], [2, 0, 1], [3, 2, 0, 1], [3, 2, 0, 1], [3, 2, 0, 1], [5, 6, 3, 2, 0, 1], [7, 5, 6, 3, 2, 0, 1], [3, 2, 0, 1], [3, 2, 0, 1], [10, 3, 2, 0, 1], [9, 11, 10, 3, 2, 0, 1], [12, 9, 11, 10, 3, 2, 0, 1], [4, 8, 7, 5, 6, 13, 12, 9, 11, 10, 3, 2, 0, 1], [14, 4, 8, 7, 5, 6, 13, 12, 9, 11, 10, 3, 2, 0, 1], [15, 14, 4, 8, 7, 5, 6, 13, 12, 9, 11, 10, 3, 2, 0, 1]])
            (.cond (.t 34)
             .skip
             (.exit 2)))
           (.seq
            (.block 3
             (.draw [
               .op (some 37) none .mv [.t 0],
               .op (some 38) none .mv [.t 9],
               .op (some 39) none .mv [.t 0],
               .op (some 40) none .mv [.t 9],
               .op (some 41) none (.bin .sub) [.t 40, .c (.int .i64 1)],
               .op (some 42) none .mv [.t 0],
               .op (some 43) none .mv [.t 9],
               .op (some 44) none (.bin .sub) [.t 43, .c (.int .i64 1)],
               .op (some 45) none (.idxa 9) [.t 42, .t 44],
               .op (some 46) none (.load 9 true) [.t 45],
               .op (some 47) none .mv [.t 0],
               .op (some 48) none .mv [.t 9],
               .op (some 49) none (.idxa 9) [.t 47, .t 48],
               .op (some 50) none (.load 9 true) [.t 49],
               .op (some 51) none (.idxa 9) [.t 37, .t 38],
               .op none none (.store 9) [.t 51, .t 46],
               .op (some 52) none (.idxa 9) [.t 39, .t 41],
               .op none none (.store 9) [.t 52, .t 50]]
               [[], [], [], [], [3], [], [], [6], [5, 7, 6], [8, 5, 7, 6], [], [], [10, 11], [12, 10, 11], [0, 1, 9, 8, 5, 7, 6, 13, 12, 10, 11], [14, 0, 1, 9, 8, 5, 7, 6, 13, 12, 10, 11], [2, 4, 3, 15, 14, 0, 1, 9, 8, 5, 7, 6, 13, 12, 10, 11], [16, 2, 4, 3, 15, 14, 0, 1, 9, 8, 5, 7, 6, 13, 12, 10, 11]]))
            (.reg [
              .op (some 35) none .mv [.t 9],
              .op (some 36) none (.bin .sub) [.t 35, .c (.int .i64 1)],
              .op (some 9) none .mv [.t 36]])))))))
      (.reg [
        .op (some 15) none .mv [.t 8],
        .op (some 16) none (.bin .add) [.t 15, .c (.int .i64 1)],
        .op (some 8) none .mv [.t 16]]))))))⟩
set_option maxRecDepth 100000 in
theorem af215 : compF Tryz.prog 215 = some AF215 := by kernel_rfl

/-- Function 224. -/
def AF224 : AF := ⟨25, [.tmp 2],
 (.seq
  (.reg [
    .op (some 2) none .mv [.c (.int .i64 0)]])
  (.seq
   (.seq
    (.reg [
      .op (some 3) none .mv [.t 0],
      .op (some 4) none (.bin .geq) [.t 3, .c (.int .u64 4294967296)]])
    (.cond (.t 4)
     (.seq
      (.reg [
        .op (some 5) none .mv [.t 0],
        .op (some 6) none (.bin .shr) [.t 5, .c (.int .u64 32)],
        .op (some 0) none .mv [.t 6]])
      (.reg [
        .op (some 2) none .mv [.c (.int .i64 32)]]))
     .skip))
   (.seq
    (.seq
     (.reg [
       .op (some 7) none .mv [.t 0],
       .op (some 8) none (.bin .geq) [.t 7, .c (.int .u64 65536)]])
     (.cond (.t 8)
      (.seq
       (.reg [
         .op (some 9) none .mv [.t 0],
         .op (some 10) none (.bin .shr) [.t 9, .c (.int .u64 16)],
         .op (some 0) none .mv [.t 10]])
       (.reg [
         .op (some 11) none .mv [.t 2],
         .op (some 12) none (.bin .add) [.t 11, .c (.int .i64 16)],
         .op (some 2) none .mv [.t 12]]))
      .skip))
    (.seq
     (.seq
      (.reg [
        .op (some 13) none .mv [.t 0],
        .op (some 14) none (.bin .geq) [.t 13, .c (.int .u64 256)]])
      (.cond (.t 14)
       (.seq
        (.reg [
          .op (some 15) none .mv [.t 0],
          .op (some 16) none (.bin .shr) [.t 15, .c (.int .u64 8)],
          .op (some 0) none .mv [.t 16]])
        (.reg [
          .op (some 17) none .mv [.t 2],
          .op (some 18) none (.bin .add) [.t 17, .c (.int .i64 8)],
          .op (some 2) none .mv [.t 18]]))
       .skip))
     (.seq
      (.reg [
        .op (some 19) none .mv [.t 2],
        .op (some 20) none .mv [.t 0],
        .op (some 21) none (.conv .u8) [.t 20],
        .op (some 22) none .idxs [.c (.str [0, 1, 2, 2, 3, 3, 3, 3, 4, 4, 4, 4, 4, 4, 4, 4, 5, 5, 5, 5, 5, 5, 5, 5, 5, 5, 5, 5, 5, 5, 5, 5, 6, 6, 6, 6, 6, 6, 6, 6, 6, 6, 6, 6, 6, 6, 6, 6, 6, 6, 6, 6, 6, 6, 6, 6, 6, 6, 6, 6, 6, 6, 6, 6, 7, 7, 7, 7, 7, 7, 7, 7, 7, 7, 7, 7, 7, 7, 7, 7, 7, 7, 7, 7, 7, 7, 7, 7, 7, 7, 7, 7, 7, 7, 7, 7, 7, 7, 7, 7, 7, 7, 7, 7, 7, 7, 7, 7, 7, 7, 7, 7, 7, 7, 7, 7, 7, 7, 7, 7, 7, 7, 7, 7, 7, 7, 7, 7, 8, 8, 8, 8, 8, 8, 8, 8, 8, 8, 8, 8, 8, 8, 8, 8, 8, 8, 8, 8, 8, 8, 8, 8, 8, 8, 8, 8, 8, 8, 8, 8, 8, 8, 8, 8, 8, 8, 8, 8, 8, 8, 8, 8, 8, 8, 8, 8, 8, 8, 8, 8, 8, 8, 8, 8, 8, 8, 8, 8, 8, 8, 8, 8, 8, 8, 8, 8, 8, 8, 8, 8, 8, 8, 8, 8, 8, 8, 8, 8, 8, 8, 8, 8, 8, 8, 8, 8, 8, 8, 8, 8, 8, 8, 8, 8, 8, 8, 8, 8, 8, 8, 8, 8, 8, 8, 8, 8, 8, 8, 8, 8, 8, 8, 8, 8, 8, 8, 8, 8, 8, 8, 8, 8, 8, 8, 8, 8]), .t 21],
        .op (some 23) none (.conv .i64) [.t 22],
        .op (some 24) none (.bin .add) [.t 19, .t 23],
        .op (some 2) none .mv [.t 24]])
      .ret)))))⟩
set_option maxRecDepth 100000 in
theorem af224 : compF Tryz.prog 224 = some AF224 := by kernel_rfl

/-- Function 225. -/
def AF225 : AF := ⟨22, [.cell 2 115],
 (.seq
  (.reg [
    .op (some 1) none .box [.t 0],
    .op (some 2) none .box [.c (.agg [(.int .i64 0), (.int .u64 0), (.str []), (.raw (.slice none 0 0)), (.str []), (.raw (.slice none 0 0)), (.raw (.slice none 0 0))])]])
  (.seq
   (.seq
    (.reg [
      .op (some 3) none (.faddr 0) [.t 1],
      .op (some 4) none (.load 1 false) [.t 3]])
    (.block 0
     (.seq
      (.reg [
        .op (some 6) none (.bin .eql) [.t 4, .c (.int .i64 1)],
        .op (some 5) none .mv [.t 6]])
      (.cond (.t 5)
       (.reg [
         .op (some 7) none (.faddr 1) [.t 1],
         .op none none (.store 1) [.t 7, .c (.int .u64 0)]])
       (.seq
        (.reg [
          .op (some 9) none (.bin .eql) [.t 4, .c (.int .i64 2)],
          .op (some 8) none .mv [.t 9]])
        (.cond (.t 8)
         (.reg [
           .op (some 10) none (.faddr 2) [.t 1],
           .op none none (.store 1) [.t 10, .c (.str [])]])
         (.seq
          (.reg [
            .op (some 12) none (.bin .eql) [.t 4, .c (.int .i64 3)],
            .op (some 11) none .mv [.t 12]])
          (.cond (.t 11)
           (.reg [
             .op (some 13) none (.faddr 3) [.t 1],
             .op none none (.store 1) [.t 13, .c (.raw (.slice none 0 0))],
             .op (some 14) none (.faddr 4) [.t 1],
             .op none none (.store 1) [.t 14, .c (.str [])]])
           (.seq
            (.reg [
              .op (some 16) none (.bin .eql) [.t 4, .c (.int .i64 4)],
              .op (some 15) none .mv [.t 16]])
            (.cond (.t 15)
             (.reg [
               .op (some 17) none (.faddr 5) [.t 1],
               .op none none (.store 1) [.t 17, .c (.raw (.slice none 0 0))]])
             (.seq
              (.reg [
                .op (some 19) none (.bin .eql) [.t 4, .c (.int .i64 5)],
                .op (some 18) none .mv [.t 19]])
              (.cond (.t 18)
               (.reg [
                 .op (some 20) none (.faddr 6) [.t 1],
                 .op none none (.store 1) [.t 20, .c (.raw (.slice none 0 0))]])
               .skip))))))))))))
   (.seq
    (.reg [
      .op (some 21) none (.load 7 true) [.t 1],
      .op none none (.store 7) [.t 2, .t 21]])
    .ret)))⟩
set_option maxRecDepth 100000 in
theorem af225 : compF Tryz.prog 225 = some AF225 := by kernel_rfl

/-- Function 230. -/
def AF230 : AF := ⟨37, [.tmp 6],
 (.seq
  (.reg [
    .op (some 3) none .box [.t 0],
    .op (some 4) none .box [.t 1],
    .op (some 5) none .box [.t 2],
    .op (some 6) none .mv [.c (.raw .nilIface)]])
  (.seq
   (.seq
    (.reg [
      .op (some 7) none (.load 9 true) [.t 4],
      .call (some 8) none 269 [.t 7],
      .op (some 9) none .mv [.t 8],
      .op (some 10) (some (9, true)) (.faddr 0) [.t 5],
      .op (some 11) (some (9, true)) (.load 1 false) [.t 10],
      .op (some 12) (some (9, true)) (.bin .eql) [.t 11, .c (.int .i64 1)],
      .op (some 13) (some (9, true)) .mv [.t 12],
      .op (some 14) (some (13, true)) (.faddr 1) [.t 5],
      .op (some 15) (some (13, true)) (.load 1 false) [.t 14],
      .op (some 16) (some (13, true)) (.bin .eql) [.t 15, .c (.int .u64 0)],
      .op (some 17) (some (9, true)) .pick [.t 13, .t 16, .c (.bool false)],
      .op (some 18) (some (9, true)) .mv [.t 17],
      .op (some 19) (some (18, false)) (.faddr 0) [.t 5],
      .op (some 20) (some (18, false)) (.load 1 false) [.t 19],
      .op (some 21) (some (18, false)) (.bin .eql) [.t 20, .c (.int .i64 2)],
      .op (some 22) (some (18, false)) .mv [.t 21],
      .op (some 23) (some (22, true)) (.faddr 2) [.t 5],
      .op (some 24) (some (22, true)) (.load 1 false) [.t 23],
      .op (some 25) (some (22, true)) (.bin .eql) [.t 24, .c (.str [])],
      .op (some 26) (some (18, false)) .pick [.t 22, .t 25, .c (.bool false)],
      .op (some 27) (some (9, true)) .pick [.t 18, .c (.bool true), .t 26],
      .op (some 28) none .pick [.t 9, .t 27, .c (.bool false)]])
    (.cond (.t 28)
     (.seq
      (.reg [
        .op (some 29) none (.load 1 false) [.g 12],
        .op (some 6) none .mv [.t 29]])
      .ret)
     .skip))
   (.seq
    (.reg [
      .op (some 30) none (.load 2 true) [.t 3],
      .op (some 31) none (.faddr 3) [.t 4],
      .op (some 32) none (.load 1 false) [.t 31],
      .op (some 33) none (.faddr 4) [.t 4],
      .op (some 34) none (.load 1 false) [.t 33],
      .op (some 35) none (.load 7 true) [.t 5],
      .call (some 36) none 268 [.t 30, .t 32, .t 34, .t 35],
      .op (some 6) none .mv [.t 36]])
    .ret)))⟩
set_option maxRecDepth 100000 in
theorem af230 : compF Tryz.prog 230 = some AF230 := by kernel_rfl

/-- Function 231. -/
def AF231 : AF := ⟨28, [.tmp 2, .tmp 3],
 (.seq
  (.reg [
    .op (some 2) none .mv [.c (.raw (.slice none 0 0))],
    .op (some 3) none .mv [.c (.raw .nilIface)]])
  (.seq
   (.reg [
     .op (some 4) none .mv [.c (.raw (.slice none 0 0))]])
   (.seq
    (.block 0
     (.loop
      (.seq
       (.seq
        (.reg [
          .op (some 8) none .mv [.t 0],
          .op (some 9) none .len [.t 8],
          .op (some 10) none (.bin .gtr) [.t 9, .c (.int .i64 0)]])
        (.cond (.t 10)
         .skip
         (.exit 0)))
       (.block 1
        (.seq
         (.reg [
           .op (some 12) none .mv [.t 0],
           .call (some 13) none 270 [.t 12],
           .op (some 11) none .mv [.t 13],
           .op (some 14) none (.ext 0) [.t 11],
           .op (some 15) none (.ext 1) [.t 11],
           .op (some 16) none (.ext 2) [.t 11],
           .op (some 5) none .box [.c (.agg [(.int .i64 0), (.int .i64 0), (.int .u64 0), (.str []), (.str [])])],
           .op none none (.store 5) [.t 5, .t 14],
           .op (some 6) none .mv [.t 15],
           .op (some 7) none .mv [.t 16]])
         (.seq
          (.seq
           (.reg [
             .op (some 17) none .mv [.t 7],
             .op (some 18) none (.nileq 0 true) [.t 17]])
           (.cond (.t 18)
            (.seq
             (.reg [
               .op (some 19) none .mv [.t 7],
               .op (some 2) none .mv [.c (.raw (.slice none 0 0))],
               .op (some 3) none .mv [.t 19]])
             .ret)
            .skip))
          (.seq
           (.reg [
             .op (some 20) none .mv [.t 4],
             .op (some 21) none (.load 5 true) [.t 5],
             .op (some 22) none (.lit 369 5) [.t 21],
             .op (some 23) none (.app 369 5 56) [.t 20, .t 22],
             .op (some 4) none .mv [.t 23]])
           (.reg [
             .op (some 24) none .mv [.t 0],
             .op (some 25) none .mv [.t 6],
             .op (some 26) none (.ssl 1 true false) [.t 24, .t 25],
             .op (some 0) none .mv [.t 26]]))))))))
    (.seq
     (.reg [
       .op (some 27) none .mv [.t 4],
       .op (some 2) none .mv [.t 27],
       .op (some 3) none .mv [.c (.raw .nilIface)]])
     .ret))))⟩
set_option maxRecDepth 100000 in
theorem af231 : compF Tryz.prog 231 = some AF231 := by kernel_rfl

/-- Function 233. -/
def AF233 : AF := ⟨33, [],
 (.seq
  (.reg [
    .op (some 3) none .box [.t 1]])
  (.seq
   (.reg [
     .op (some 7) none (.load 5 true) [.t 3],
     .call (some 8) none 271 [.t 7],
     .op (some 6) none .mv [.t 8],
     .op (some 9) none (.ext 0) [.t 6],
     .op (some 10) none (.ext 1) [.t 6],
     .op (some 4) none .mv [.t 9],
     .op (some 5) none .mv [.t 10]])
   (.seq
    (.seq
     (.reg [
       .op (some 11) none .mv [.t 5],
       .op (some 12) none (.nileq 0 true) [.t 11],
       .op (some 13) none .mv [.t 12],
       .op (some 14) (some (13, true)) .mv [.t 0],
       .op (some 15) (some (13, true)) .nilck [.t 14],
       .op (some 16) (some (13, true)) (.faddr 3) [.t 15],
       .op (some 17) (some (13, true)) (.load 1 false) [.t 16],
       .op (some 18) (some (13, true)) (.nileq 0 false) [.t 17],
       .op (some 19) none .pick [.t 13, .t 18, .c (.bool false)]])
     (.cond (.t 19)
      (.reg [
        .op (some 20) none .mv [.t 0],
        .op (some 21) none .mv [.t 5],
        .op (some 22) none .nilck [.t 20],
        .op (some 23) none (.faddr 3) [.t 22],
        .op none none (.store 1) [.t 23, .t 21]])
      .skip))
    (.reg [
      .op (some 24) none .mv [.t 0],
      .op (some 25) none .mv [.t 0],
      .op (some 26) none .nilck [.t 25],
      .op (some 27) none (.faddr 2) [.t 26],
      .op (some 28) none (.load 1 false) [.t 27],
      .op (some 29) none .mv [.t 4],
      .op (some 30) none (.app 5 1 1) [.t 28, .t 29],
      .op (some 31) none .nilck [.t 24],
      .op (some 32) none (.faddr 2) [.t 31],
      .op none none (.store 1) [.t 32, .t 30]]))))⟩
set_option maxRecDepth 100000 in
theorem af233 : compF Tryz.prog 233 = some AF233 := by kernel_rfl

/-- Function 236. -/
def AF236 : AF := ⟨39, [],
 (.seq
  (.reg [
    .op (some 8) none .box [.t 3],
    .op (some 9) none .box [.t 4]])
  (.seq
   (.reg [
     .op (some 11) none .mv [.t 1],
     .op (some 12) none .mv [.t 2],
     .call (some 13) none 40 [.t 12],
     .op (some 14) none (.bld [(.int .i64 0), (.int .i64 0)] [(0, 1), (1, 1)]) [.t 11, .t 13],
     .op (some 15) none (.bld [(.int .i64 0), (.int .i64 0), (.int .u64 0), (.str []), (.str [])] [(0, 2)]) [.t 14],
     .op (some 10) none .box [.c (.agg [(.int .i64 0), (.int .i64 0), (.int .u64 0), (.str []), (.str [])])],
     .op none none (.store 5) [.t 10, .t 15]])
   (.seq
    (.seq
     (.reg [
       .op (some 16) none (.faddr 0) [.t 9],
       .op (some 17) none (.load 1 false) [.t 16]])
     (.block 0
      (.seq
       (.reg [
         .op (some 19) none (.bin .eql) [.t 17, .c (.int .i64 1)],
         .op (some 18) none .mv [.t 19]])
       (.cond (.t 18)
        (.reg [
          .op (some 20) none .mv [.t 2],
          .op (some 21) none (.faddr 1) [.t 9],
          .op (some 22) none (.load 1 false) [.t 21],
          .call (some 23) none 41 [.t 20, .t 22],
          .op (some 24) none (.faddr 2) [.t 10],
          .op none none (.store 1) [.t 24, .t 23]])
        (.seq
         (.reg [
           .op (some 26) none (.bin .eql) [.t 17, .c (.int .i64 2)],
           .op (some 25) none .mv [.t 26]])
         (.cond (.t 25)
          (.reg [
            .op (some 27) none (.faddr 2) [.t 9],
            .op (some 28) none (.load 1 false) [.t 27],
            .op (some 29) none (.faddr 3) [.t 10],
            .op none none (.store 1) [.t 29, .t 28]])
          (.seq
           (.reg [
             .op (some 31) none (.bin .eql) [.t 17, .c (.int .i64 3)],
             .op (some 30) none .mv [.t 31]])
           (.cond (.t 30)
            (.reg [
              .op (some 32) none .mv [.t 0],
              .op (some 33) none (.mkfn (.func 272) 0) [.t 8, .t 9],
              .call (some 34) none 234 [.t 32, .t 33],
              .op (some 35) none (.faddr 3) [.t 10],
              .op none none (.store 1) [.t 35, .t 34]])
            .skip))))))))
    (.reg [
      .op (some 36) none .mv [.t 0],
      .op (some 37) none (.load 5 true) [.t 10],
      .call (some 38) none 233 [.t 36, .t 37]]))))⟩
set_option maxRecDepth 100000 in
theorem af236 : compF Tryz.prog 236 = some AF236 := by kernel_rfl

/-- Function 241. -/
def AF241 : AF := ⟨172, [.tmp 6, .tmp 7],
 (.seq
  (.reg [
    .op (some 6) none .mv [.c (.int .u64 0)],
    .op (some 7) none .mv [.c (.raw .nilIface)]])
  (.seq
   (.seq
    (.reg [
      .op (some 18) none .mv [.t 0],
      .op (some 19) none (.bin .eql) [.t 18, .c (.str [])]])
    (.cond (.t 19)
     (.seq
      (.reg [
        .op (some 20) none (.mkif 408) [.c (.int .i64 2)],
        .op (some 6) none .mv [.c (.int .u64 0)],
        .op (some 7) none .mv [.t 20]])
      .ret)
     .skip))
   (.seq
    (.reg [
      .op (some 21) none .mv [.t 1],
      .op (some 22) none (.bin .eql) [.t 21, .c (.int .i64 0)],
      .op (some 8) none .mv [.t 22]])
    (.seq
     (.reg [
       .op (some 23) none .mv [.t 0],
       .op (some 9) none .mv [.t 23]])
     (.seq
      (.block 0
       (.seq
        (.reg [
          .op (some 26) none .mv [.t 1],
          .op (some 27) none (.bin .leq) [.c (.int .i64 2), .t 26],
          .op (some 28) none .mv [.t 27],
          .op (some 29) (some (28, true)) .mv [.t 1],
          .op (some 30) (some (28, true)) (.bin .leq) [.t 29, .c (.int .i64 36)],
          .op (some 31) none .pick [.t 28, .t 30, .c (.bool false)],
          .op (some 25) none .mv [.t 31]])
        (.cond (.t 25)
         .skip
         (.seq
          (.reg [
            .op (some 33) none .mv [.t 1],
            .op (some 34) none (.bin .eql) [.t 33, .c (.int .i64 0)],
            .op (some 32) none .mv [.t 34]])
          (.cond (.t 32)
           (.seq
            (.reg [
              .op (some 1) none .mv [.c (.int .i64 10)]])
            (.seq
             (.reg [
               .op (some 35) none .mv [.t 0],
               .op (some 36) none .idxs [.t 35, .c (.int .i64 0)],
               .op (some 37) none (.bin .eql) [.t 36, .c (.int .u8 48)]])
             (.cond (.t 37)
              (.block 1
               (.seq
                (.reg [
                  .op (some 41) none .mv [.t 0],
                  .op (some 42) none .slen [.t 41],
                  .op (some 43) none (.bin .geq) [.t 42, .c (.int .i64 3)],
                  .op (some 44) none .mv [.t 43],
                  .op (some 45) (some (44, true)) .mv [.t 0],
                  .op (some 46) (some (44, true)) .idxs [.t 45, .c (.int .i64 1)],
                  .call (some 47) (some (44, true)) 275 [.t 46],
                  .op (some 48) (some (44, true)) (.bin .eql) [.t 47, .c (.int .u8 98)],
                  .op (some 49) none .pick [.t 44, .t 48, .c (.bool false)],
                  .op (some 40) none .mv [.t 49]])
                (.cond (.t 40)
                 (.seq
                  (.reg [
                    .op (some 1) none .mv [.c (.int .i64 2)]])
                  (.reg [
                    .op (some 50) none .mv [.t 0],
                    .op (some 51) none (.sstr true false) [.t 50, .c (.int .i64 2)],
                    .op (some 0) none .mv [.t 51]]))
                 (.seq
                  (.reg [
                    .op (some 53) none .mv [.t 0],
                    .op (some 54) none .slen [.t 53],
                    .op (some 55) none (.bin .geq) [.t 54, .c (.int .i64 3)],
                    .op (some 56) none .mv [.t 55],
                    .op (some 57) (some (56, true)) .mv [.t 0],
                    .op (some 58) (some (56, true)) .idxs [.t 57, .c (.int .i64 1)],
                    .call (some 59) (some (56, true)) 275 [.t 58],
                    .op (some 60) (some (56, true)) (.bin .eql) [.t 59, .c (.int .u8 111)],
                    .op (some 61) none .pick [.t 56, .t 60, .c (.bool false)],
                    .op (some 52) none .mv [.t 61]])
                  (.cond (.t 52)
                   (.seq
                    (.reg [
                      .op (some 1) none .mv [.c (.int .i64 8)]])
                    (.reg [
                      .op (some 62) none .mv [.t 0],
                      .op (some 63) none (.sstr true false) [.t 62, .c (.int .i64 2)],
                      .op (some 0) none .mv [.t 63]]))
                   (.seq
                    (.reg [
                      .op (some 65) none .mv [.t 0],
                      .op (some 66) none .slen [.t 65],
                      .op (some 67) none (.bin .geq) [.t 66, .c (.int .i64 3)],
                      .op (some 68) none .mv [.t 67],
                      .op (some 69) (some (68, true)) .mv [.t 0],
                      .op (some 70) (some (68, true)) .idxs [.t 69, .c (.int .i64 1)],
                      .call (some 71) (some (68, true)) 275 [.t 70],
                      .op (some 72) (some (68, true)) (.bin .eql) [.t 71, .c (.int .u8 120)],
                      .op (some 73) none .pick [.t 68, .t 72, .c (.bool false)],
                      .op (some 64) none .mv [.t 73]])
                    (.cond (.t 64)
                     (.seq
                      (.reg [
                        .op (some 1) none .mv [.c (.int .i64 16)]])
                      (.reg [
                        .op (some 74) none .mv [.t 0],
                        .op (some 75) none (.sstr true false) [.t 74, .c (.int .i64 2)],
                        .op (some 0) none .mv [.t 75]]))
                     (.seq
                      (.reg [
                        .op (some 1) none .mv [.c (.int .i64 8)]])
                      (.reg [
                        .op (some 38) none .mv [.t 0],
                        .op (some 39) none (.sstr true false) [.t 38, .c (.int .i64 1)],
                        .op (some 0) none .mv [.t 39]])))))))))
              .skip)))
           (.seq
            (.reg [
              .op (some 24) none (.mkif 408) [.c (.int .i64 3)],
              .op (some 6) none .mv [.c (.int .u64 0)],
              .op (some 7) none .mv [.t 24]])
            .ret))))))
      (.seq
       (.seq
        (.reg [
          .op (some 76) none .mv [.t 2],
          .op (some 77) none (.bin .eql) [.t 76, .c (.int .i64 0)]])
        (.cond (.t 77)
         (.reg [
           .op (some 2) none .mv [.c (.int .i64 64)]])
         (.seq
          (.reg [
            .op (some 78) none .mv [.t 2],
            .op (some 79) none (.bin .lss) [.t 78, .c (.int .i64 0)],
            .op (some 80) none .mv [.t 79],
            .op (some 81) (some (80, false)) .mv [.t 2],
            .op (some 82) (some (80, false)) (.bin .gtr) [.t 81, .c (.int .i64 64)],
            .op (some 83) none .pick [.t 80, .c (.bool true), .t 82]])
          (.cond (.t 83)
           (.seq
            (.reg [
              .op (some 84) none (.mkif 408) [.c (.int .i64 4)],
              .op (some 6) none .mv [.c (.int .u64 0)],
              .op (some 7) none .mv [.t 84]])
            .ret)
           .skip))))
       (.seq
        (.reg [
          .op (some 10) none .mv [.c (.int .u64 0)]])
        (.seq
         (.seq
          (.reg [
            .op (some 85) none .mv [.t 1]])
          (.block 2
           (.seq
            (.reg [
              .op (some 91) none (.bin .eql) [.t 85, .c (.int .i64 10)],
              .op (some 90) none .mv [.t 91]])
            (.cond (.t 90)
             (.reg [
               .op (some 10) none .mv [.c (.int .u64 1844674407370955162)]])
             (.seq
              (.reg [
                .op (some 93) none (.bin .eql) [.t 85, .c (.int .i64 16)],
                .op (some 92) none .mv [.t 93]])
              (.cond (.t 92)
               (.reg [
                 .op (some 10) none .mv [.c (.int .u64 1152921504606846976)]])
               (.reg [
                 .op (some 86) none .mv [.t 1],
                 .op (some 87) none (.conv .u64) [.t 86],
                 .op (some 88) none (.bin .quo) [.c (.int .u64 18446744073709551615), .t 87],
                 .op (some 89) none (.bin .add) [.t 88, .c (.int .u64 1)],
                 .op (some 10) none .mv [.t 89]])))))))
         (.seq
          (.reg [
            .op (some 94) none .mv [.t 2],
            .op (some 95) none (.conv .u64) [.t 94],
            .op (some 96) none (.bin .shl) [.c (.int .u64 1), .t 95],
            .op (some 97) none (.bin .sub) [.t 96, .c (.int .u64 1)],
            .op (some 11) none .mv [.t 97]])
          (.seq
           (.reg [
             .op (some 12) none .mv [.c (.bool false)]])
           (.seq
            (.reg [
              .op (some 13) none .mv [.c (.int .u64 0)]])
            (.seq
             (.seq
              (.reg [
                .op (some 98) none .mv [.t 0],
                .op (some 99) none .s2b [.t 98],
                .op (some 100) none .len [.t 99],
                .op (some 101) none .mv [.c (.int .i64 0)]])
              (.block 3
               (.loop
                (.seq
                 (.reg [
                   .op (some 102) none (.bin .lss) [.t 101, .t 100]])
                 (.seq
                  (.cond (.t 102)
                   .skip
                   (.exit 3))
                  (.seq
                   (.block 4
                    (.seq
                     (.reg [
                       .op (some 103) none (.idxa 1) [.t 99, .t 101],
                       .op (some 104) none (.load 1 false) [.t 103],
                       .op (some 15) none .mv [.t 104]])
                     (.seq
                      (.reg [
                        .op (some 16) none .mv [.c (.int .u8 0)]])
                      (.seq
                       (.block 5
                        (.seq
                         (.reg [
                           .op (some 107) none .mv [.t 15],
                           .op (some 108) none (.bin .eql) [.t 107, .c (.int .u8 95)],
                           .op (some 109) none .mv [.t 108],
                           .op (some 110) (some (109, true)) .mv [.t 8],
                           .op (some 111) none .pick [.t 109, .t 110, .c (.bool false)],
                           .op (some 106) none .mv [.t 111]])
                         (.cond (.t 106)
                          (.seq
                           (.reg [
                             .op (some 12) none .mv [.c (.bool true)]])
                           (.exit 4))
                          (.seq
                           (.reg [
                             .op (some 113) none .mv [.t 15],
                             .op (some 114) none (.bin .leq) [.c (.int .u8 48), .t 113],
                             .op (some 115) none .mv [.t 114],
                             .op (some 116) (some (115, true)) .mv [.t 15],
                             .op (some 117) (some (115, true)) (.bin .leq) [.t 116, .c (.int .u8 57)],
                             .op (some 118) none .pick [.t 115, .t 117, .c (.bool false)],
                             .op (some 112) none .mv [.t 118]])
                           (.cond (.t 112)
                            (.reg [
                              .op (some 119) none .mv [.t 15],
                              .op (some 120) none (.bin .sub) [.t 119, .c (.int .u8 48)],
                              .op (some 16) none .mv [.t 120]])
                            (.seq
                             (.reg [
                               .op (some 122) none .mv [.t 15],
                               .call (some 123) none 275 [.t 122],
                               .op (some 124) none (.bin .leq) [.c (.int .u8 97), .t 123],
                               .op (some 125) none .mv [.t 124],
                               .op (some 126) (some (125, true)) .mv [.t 15],
                               .call (some 127) (some (125, true)) 275 [.t 126],
                               .op (some 128) (some (125, true)) (.bin .leq) [.t 127, .c (.int .u8 122)],
                               .op (some 129) none .pick [.t 125, .t 128, .c (.bool false)],
                               .op (some 121) none .mv [.t 129]])
                             (.cond (.t 121)
                              (.reg [
                                .op (some 130) none .mv [.t 15],
                                .call (some 131) none 275 [.t 130],
                                .op (some 132) none (.bin .sub) [.t 131, .c (.int .u8 97)],
                                .op (some 133) none (.bin .add) [.t 132, .c (.int .u8 10)],
                                .op (some 16) none .mv [.t 133]])
                              (.seq
                               (.reg [
                                 .op (some 105) none (.mkif 408) [.c (.int .i64 2)],
                                 .op (some 6) none .mv [.c (.int .u64 0)],
                                 .op (some 7) none .mv [.t 105]])
                               .ret))))))))
                       (.seq
                        (.seq
                         (.reg [
                           .op (some 134) none .mv [.t 16],
                           .op (some 135) none .mv [.t 1],
                           .op (some 136) none (.conv .u8) [.t 135],
                           .op (some 137) none (.bin .geq) [.t 134, .t 136]])
                         (.cond (.t 137)
                          (.seq
                           (.reg [
                             .op (some 138) none (.mkif 408) [.c (.int .i64 2)],
                             .op (some 6) none .mv [.c (.int .u64 0)],
                             .op (some 7) none .mv [.t 138]])
                           .ret)
                          .skip))
                        (.seq
                         (.seq
                          (.reg [
                            .op (some 139) none .mv [.t 13],
                            .op (some 140) none .mv [.t 10],
                            .op (some 141) none (.bin .geq) [.t 139, .t 140]])
                          (.cond (.t 141)
                           (.seq
                            (.reg [
                              .op (some 142) none .mv [.t 11],
                              .op (some 143) none (.mkif 408) [.c (.int .i64 1)],
                              .op (some 6) none .mv [.t 142],
                              .op (some 7) none .mv [.t 143]])
                            .ret)
                           .skip))
                         (.seq
                          (.reg [
                            .op (some 144) none .mv [.t 13],
                            .op (some 145) none .mv [.t 1],
                            .op (some 146) none (.conv .u64) [.t 145],
                            .op (some 147) none (.bin .mul) [.t 144, .t 146],
                            .op (some 13) none .mv [.t 147]])
                          (.seq
                           (.reg [
                             .op (some 148) none .mv [.t 13],
                             .op (some 149) none .mv [.t 16],
                             .op (some 150) none (.conv .u64) [.t 149],
                             .op (some 151) none (.bin .add) [.t 148, .t 150],
                             .op (some 17) none .mv [.t 151]])
                           (.seq
                            (.seq
                             (.reg [
                               .op (some 152) none .mv [.t 17],
                               .op (some 153) none .mv [.t 13],
                               .op (some 154) none (.bin .lss) [.t 152, .t 153],
                               .op (some 155) none .mv [.t 154],
                               .op (some 156) (some (155, false)) .mv [.t 17],
                               .op (some 157) (some (155, false)) .mv [.t 11],
                               .op (some 158) (some (155, false)) (.bin .gtr) [.t 156, .t 157],
                               .op (some 159) none .pick [.t 155, .c (.bool true), .t 158]])
                             (.cond (.t 159)
                              (.seq
                               (.reg [
                                 .op (some 160) none .mv [.t 11],
                                 .op (some 161) none (.mkif 408) [.c (.int .i64 1)],
                                 .op (some 6) none .mv [.t 160],
                                 .op (some 7) none .mv [.t 161]])
                               .ret)
                              .skip))
                            (.reg [
                              .op (some 162) none .mv [.t 17],
                              .op (some 13) none .mv [.t 162]]))))))))))
                   (.reg [
                     .op (some 163) none (.bin .add) [.t 101, .c (.int .i64 1)],
                     .op (some 101) none .mv [.t 163]])))))))
             (.seq
              (.seq
               (.reg [
                 .op (some 164) none .mv [.t 12],
                 .op (some 165) none .mv [.t 164],
                 .op (some 166) (some (165, true)) .mv [.t 9],
                 .call (some 167) (some (165, true)) 276 [.t 166],
                 .op (some 168) (some (165, true)) (.un .not) [.t 167],
                 .op (some 169) none .pick [.t 165, .t 168, .c (.bool false)]])
               (.cond (.t 169)
                (.seq
                 (.reg [
                   .op (some 170) none (.mkif 408) [.c (.int .i64 2)],
                   .op (some 6) none .mv [.c (.int .u64 0)],
                   .op (some 7) none .mv [.t 170]])
                 .ret)
                .skip))
              (.seq
               (.reg [
                 .op (some 171) none .mv [.t 13],
                 .op (some 6) none .mv [.t 171],
                 .op (some 7) none .mv [.c (.raw .nilIface)]])
               .ret))))))))))))))⟩
set_option maxRecDepth 100000 in
theorem af241 : compF Tryz.prog 241 = some AF241 := by kernel_rfl

/-- Function 243. -/
def AF243 : AF := ⟨187, [.tmp 4],
 (.seq
  (.reg [
    .op (some 4) none .mv [.c (.int .i64 0)]])
  (.block 0
   (.seq
    (.reg [
      .op (some 161) none .mv [.t 1],
      .op (some 162) none (.bin .leq) [.c (.int .i32 0), .t 161],
      .op (some 163) none .mv [.t 162],
      .op (some 164) (some (163, true)) .mv [.t 1],
      .op (some 165) (some (163, true)) (.bin .lss) [.t 164, .c (.int .i32 128)],
      .op (some 166) none .pick [.t 163, .t 165, .c (.bool false)],
      .op (some 160) none .mv [.t 166]])
    (.cond (.t 160)
     (.seq
      (.reg [
        .op (some 167) none .mv [.t 0],
        .op (some 168) none .mv [.t 1],
        .op (some 169) none (.conv .u8) [.t 168],
        .call (some 170) none 96 [.t 167, .t 169],
        .op (some 4) none .mv [.t 170]])
      .ret)
     (.seq
      (.reg [
        .op (some 172) none .mv [.t 1],
        .op (some 173) none (.bin .eql) [.t 172, .c (.int .i32 65533)],
        .op (some 171) none .mv [.t 173]])
      (.cond (.t 171)
       (.seq
        (.seq
         (.reg [
           .op (some 174) none .mv [.t 0],
           .op (some 175) none .ranges [.t 174]])
         (.block 9
          (.loop
           (.seq
            (.reg [
              .op (some 176) none .nexts [.t 175],
              .op (some 177) none (.ext 0) [.t 176]])
            (.seq
             (.cond (.t 177)
              .skip
              (.exit 9))
             (.block 10
              (.seq
               (.reg [
                 .op (some 178) none (.ext 1) [.t 176],
                 .op (some 179) none (.ext 2) [.t 176],
                 .op (some 5) none .mv [.t 178],
                 .op (some 6) none .mv [.t 179]])
               (.seq
                (.reg [
                  .op (some 180) none .mv [.t 6],
                  .op (some 181) none (.bin .eql) [.t 180, .c (.int .i32 65533)]])
                (.cond (.t 181)
                 (.seq
                  (.reg [
                    .op (some 182) none .mv [.t 5],
                    .op (some 4) none .mv [.t 182]])
                  .ret)
                 .skip)))))))))
        (.seq
         (.reg [
           .op (some 4) none .mv [.c (.int .i64 (-1))]])
         .ret))
       (.seq
        (.reg [
          .op (some 184) none .mv [.t 1],
          .call (some 185) none 281 [.t 184],
          .op (some 186) none (.un .not) [.t 185],
          .op (some 183) none .mv [.t 186]])
        (.cond (.t 183)
         (.seq
          (.reg [
            .op (some 4) none .mv [.c (.int .i64 (-1))]])
          .ret)
         .bad))))))))⟩
set_option maxRecDepth 100000 in
theorem af243 : compF Tryz.prog 243 = some AF243 := by kernel_rfl

/-- Function 244. -/
def AF244 : AF := ⟨5, [.tmp 2],
 (.seq
  (.reg [
    .op (some 2) none .mv [.c (.bool false)]])
  (.seq
   (.reg [
     .op (some 3) none .mv [.t 0],
     .op (some 4) none (.bin .gtr) [.t 3, .c (.int .i64 8)],
     .op (some 2) none .mv [.t 4]])
   .ret))⟩
set_option maxRecDepth 100000 in
theorem af244 : compF Tryz.prog 244 = some AF244 := by kernel_rfl

/-- Function 250. -/
def AF250 : AF := ⟨9, [.tmp 4],
 (.seq
  (.reg [
    .op (some 4) none .mv [.c (.bool false)]])
  (.seq
   (.reg [
     .op (some 5) none .mv [.t 0],
     .op (some 6) none .mv [.t 1],
     .call (some 7) none 282 [.t 5, .t 6],
     .op (some 8) none (.bin .geq) [.t 7, .c (.int .i64 0)],
     .op (some 4) none .mv [.t 8]])
   .ret))⟩
set_option maxRecDepth 100000 in
theorem af250 : compF Tryz.prog 250 = some AF250 := by kernel_rfl

/-- Function 251. -/
def AF251 : AF := ⟨11, [.tmp 2, .tmp 3],
 (.seq
  (.reg [
    .op (some 2) none .mv [.c (.int .i64 0)],
    .op (some 3) none .mv [.c (.bool false)]])
  (.seq
   (.reg [
     .op (some 5) none (.sarr 18) [.g 21, .c (.int .i64 0), .c (.int .i64 16)],
     .op (some 6) none .mv [.t 0],
     .call (some 7) none 165 [.t 5, .t 6],
     .op (some 4) none .mv [.t 7]])
   (.seq
    (.seq
     (.reg [
       .op (some 8) none .mv [.t 4],
       .op (some 9) none (.bin .lss) [.t 8, .c (.int .i64 1)]])
     (.cond (.t 9)
      (.seq
       (.reg [
         .op (some 2) none .mv [.c (.int .i64 0)],
         .op (some 3) none .mv [.c (.bool false)]])
       .ret)
      .skip))
    (.seq
     (.reg [
       .op (some 10) none .mv [.t 4],
       .op (some 2) none .mv [.t 10],
       .op (some 3) none .mv [.c (.bool true)]])
     .ret))))⟩
set_option maxRecDepth 100000 in
theorem af251 : compF Tryz.prog 251 = some AF251 := by kernel_rfl

/-- Function 268. -/
def AF268 : AF := ⟨50, [.tmp 8],
 (.seq
  (.reg [
    .op (some 4) none .box [.t 0],
    .op (some 7) none .box [.t 3],
    .op (some 8) none .mv [.c (.raw .nilIface)]])
  (.seq
   (.reg [
     .op (some 9) none .mv [.c (.int .i64 2)]])
   (.seq
    (.block 0
     (.seq
      (.reg [
        .op (some 11) none .mv [.t 1],
        .call (some 12) none 38 [.t 11],
        .op (some 10) none .mv [.t 12]])
      (.cond (.t 10)
       (.reg [
         .op (some 9) none .mv [.c (.int .i64 1)]])
       (.seq
        (.reg [
          .op (some 14) none .mv [.t 1],
          .op (some 15) none (.bin .eql) [.t 14, .c (.int .i64 17)],
          .op (some 13) none .mv [.t 15]])
        (.cond (.t 13)
         (.reg [
           .op (some 9) none .mv [.c (.int .i64 3)]])
         .skip)))))
    (.seq
     (.block 1
      (.seq
       (.reg [
         .op (some 17) none (.faddr 0) [.t 7],
         .op (some 18) none (.load 1 false) [.t 17],
         .op (some 19) none .mv [.t 9],
         .op (some 20) none (.bin .neq) [.t 18, .t 19],
         .op (some 16) none .mv [.t 20]])
       (.cond (.t 16)
        (.seq
         (.reg [
           .op (some 21) none (.load 1 false) [.g 12],
           .op (some 8) none .mv [.t 21]])
         .ret)
        (.seq
         (.reg [
           .op (some 23) none .mv [.t 9],
           .op (some 24) none (.bin .eql) [.t 23, .c (.int .i64 1)],
           .op (some 25) none .mv [.t 24],
           .op (some 26) (some (25, true)) .mv [.t 1],
           .op (some 27) (some (25, true)) (.faddr 1) [.t 7],
           .op (some 28) (some (25, true)) (.load 1 false) [.t 27],
           .call (some 29) (some (25, true)) 289 [.t 26, .t 28],
           .op (some 30) (some (25, true)) (.un .not) [.t 29],
           .op (some 31) none .pick [.t 25, .t 30, .c (.bool false)],
           .op (some 22) none .mv [.t 31]])
         (.cond (.t 22)
          (.seq
           (.reg [
             .op (some 32) none (.load 1 false) [.g 12],
             .op (some 8) none .mv [.t 32]])
           .ret)
          (.seq
           (.reg [
             .op (some 34) none .mv [.t 1],
             .op (some 35) none (.bin .eql) [.t 34, .c (.int .i64 14)],
             .op (some 36) none .mv [.t 35],
             .op (some 37) (some (36, true)) (.faddr 2) [.t 7],
             .op (some 38) (some (36, true)) (.load 1 false) [.t 37],
             .call (some 39) (some (36, true)) 290 [.t 38],
             .op (some 40) (some (36, true)) (.un .not) [.t 39],
             .op (some 41) none .pick [.t 36, .t 40, .c (.bool false)],
             .op (some 33) none .mv [.t 41]])
           (.cond (.t 33)
            (.seq
             (.reg [
               .op (some 42) none (.load 1 false) [.g 11],
               .op (some 8) none .mv [.t 42]])
             .ret)
            (.seq
             (.reg [
               .op (some 44) none .mv [.t 9],
               .op (some 45) none (.bin .eql) [.t 44, .c (.int .i64 3)],
               .op (some 43) none .mv [.t 45]])
             (.cond (.t 43)
              (.seq
               (.reg [
                 .op (some 46) none (.load 2 true) [.t 4],
                 .op (some 47) none .mv [.t 2],
                 .op (some 48) none (.load 7 true) [.t 7],
                 .call (some 49) none 130 [.t 46, .t 47, .t 48],
                 .op (some 8) none .mv [.t 49]])
               .ret)
              .skip)))))))))
     (.seq
      (.reg [
        .op (some 8) none .mv [.c (.raw .nilIface)]])
      .ret)))))⟩
set_option maxRecDepth 100000 in
theorem af268 : compF Tryz.prog 268 = some AF268 := by kernel_rfl

/-- Function 269. -/
def AF269 : AF := ⟨11, [.tmp 2],
 (.seq
  (.reg [
    .op (some 1) none .box [.t 0],
    .op (some 2) none .mv [.c (.bool false)]])
  (.seq
   (.reg [
     .op (some 3) none (.faddr 2) [.t 1],
     .op (some 4) none (.load 1 false) [.t 3],
     .op (some 5) none (.bin .eql) [.t 4, .c (.int .i64 1)],
     .op (some 6) none .mv [.t 5],
     .op (some 7) (some (6, true)) (.faddr 8) [.t 1],
     .op (some 8) (some (6, true)) (.load 1 false) [.t 7],
     .op (some 9) (some (6, true)) (.bin .eql) [.t 8, .c (.int .i64 0)],
     .op (some 10) none .pick [.t 6, .t 9, .c (.bool false)],
     .op (some 2) none .mv [.t 10]])
   .ret))⟩
set_option maxRecDepth 100000 in
theorem af269 : compF Tryz.prog 269 = some AF269 := by kernel_rfl

/-- Function 271. -/
def AF271 : AF := ⟨54, [.tmp 2, .tmp 3],
 (.seq
  (.reg [
    .op (some 1) none .box [.t 0],
    .op (some 2) none .mv [.c (.raw (.slice none 0 0))],
    .op (some 3) none .mv [.c (.raw .nilIface)]])
  (.seq
   (.seq
    (.reg [
      .op (some 7) none (.load 5 true) [.t 1],
      .call (some 8) none 294 [.t 7],
      .op (some 4) none .mv [.t 8]])
    (.seq
     (.reg [
       .op (some 9) none .mv [.t 4],
       .op (some 10) none (.nileq 0 true) [.t 9]])
     (.cond (.t 10)
      (.seq
       (.reg [
         .op (some 11) none .mv [.t 4],
         .op (some 2) none .mv [.c (.raw (.slice none 0 0))],
         .op (some 3) none .mv [.t 11]])
       .ret)
      .skip)))
   (.seq
    (.reg [
      .op (some 13) none (.faddr 0) [.t 1],
      .op (some 14) none (.load 2 true) [.t 13],
      .call (some 15) none 295 [.t 14],
      .op (some 12) none .mv [.t 15],
      .op (some 16) none (.ext 0) [.t 12],
      .op (some 17) none (.ext 1) [.t 12],
      .op (some 5) none .mv [.t 16],
      .op (some 6) none .mv [.t 17]])
    (.seq
     (.seq
      (.reg [
        .op (some 18) none .mv [.t 6],
        .op (some 19) none (.nileq 0 true) [.t 18]])
      (.cond (.t 19)
       (.seq
        (.reg [
          .op (some 20) none .mv [.t 6],
          .op (some 2) none .mv [.c (.raw (.slice none 0 0))],
          .op (some 3) none .mv [.t 20]])
        .ret)
       .skip))
     (.seq
      (.seq
       (.reg [
         .op (some 21) none (.faddr 0) [.t 1],
         .op (some 22) none (.faddr 1) [.t 21],
         .op (some 23) none (.load 1 false) [.t 22]])
       (.block 0
        (.seq
         (.reg [
           .op (some 25) none (.bin .eql) [.t 23, .c (.int .i64 1)],
           .op (some 24) none .mv [.t 25]])
         (.cond (.t 24)
          (.seq
           (.reg [
             .op (some 26) none .mv [.t 5],
             .op (some 27) none (.faddr 2) [.t 1],
             .op (some 28) none (.load 1 false) [.t 27],
             .call (some 29) none 73 [.t 26, .t 28],
             .op (some 2) none .mv [.t 29],
             .op (some 3) none .mv [.c (.raw .nilIface)]])
           .ret)
          (.seq
           (.reg [
             .op (some 31) none (.bin .eql) [.t 23, .c (.int .i64 5)],
             .op (some 30) none .mv [.t 31]])
           (.cond (.t 30)
            (.seq
             (.reg [
               .op (some 32) none .mv [.t 5],
               .op (some 33) none (.faddr 2) [.t 1],
               .op (some 34) none (.load 1 false) [.t 33],
               .op (some 35) none (.conv .u32) [.t 34],
               .call (some 36) none 75 [.t 32, .t 35],
               .op (some 2) none .mv [.t 36],
               .op (some 3) none .mv [.c (.raw .nilIface)]])
             .ret)
            (.seq
             (.reg [
               .op (some 38) none (.bin .eql) [.t 23, .c (.int .i64 2)],
               .op (some 37) none .mv [.t 38]])
             (.cond (.t 37)
              (.seq
               (.draw [
                 .op (some 39) none .mv [.t 5],
                 .op (some 40) none (.faddr 3) [.t 1],
                 .op (some 41) none (.load 1 false) [.t 40],
                 .op (some 42) none .slen [.t 41],
                 .op (some 43) none (.conv .u64) [.t 42],
                 .call (some 44) none 76 [.t 39, .t 43],
                 .op (some 45) none (.faddr 3) [.t 1],
                 .op (some 46) none (.load 1 false) [.t 45],
                 .op (some 47) none .s2b [.t 46],
                 .op (some 48) none (.lit 57 1) [.t 44, .t 47],
                 .call (some 49) none 296 [.t 48],
                 .op (some 2) none .mv [.t 49],
                 .op (some 3) none .mv [.c (.raw .nilIface)]]
                 [[], [], [1], [2, 1], [3, 2, 1], [0, 4, 3, 2, 1], [], [6], [7, 6], [5, 0, 4, 3, 2, 1, 8, 7, 6], [9, 8, 7, 6, 5, 0, 4, 3, 2, 1], [10, 9, 8, 7, 6, 5, 0, 4, 3, 2, 1], [11, 10, 9, 8, 7, 6, 5, 0, 4, 3, 2, 1]])
               .ret)
              .skip))))))))
      (.seq
       (.reg [
         .op (some 50) none .mv [.t 5],
         .op (some 51) none (.faddr 2) [.t 1],
         .op (some 52) none (.load 1 false) [.t 51],
         .call (some 53) none 76 [.t 50, .t 52],
         .op (some 2) none .mv [.t 53],
         .op (some 3) none .mv [.c (.raw .nilIface)]])
       .ret))))))⟩
set_option maxRecDepth 100000 in
theorem af271 : compF Tryz.prog 271 = some AF271 := by kernel_rfl

/-- Function 282. -/
def AF282 : AF := ⟨19, [.tmp 4],
 (.seq
  (.reg [
    .op (some 4) none .mv [.c (.int .i64 0)]])
  (.seq
   (.seq
    (.reg [
      .op (some 6) none .mv [.t 0],
      .op (some 7) none .len [.t 6],
      .op (some 8) none .mv [.c (.int .i64 0)]])
    (.block 0
     (.loop
      (.seq
       (.reg [
         .op (some 9) none (.bin .lss) [.t 8, .t 7]])
       (.seq
        (.cond (.t 9)
         .skip
         (.exit 0))
        (.seq
         (.block 1
          (.seq
           (.reg [
             .op (some 10) none .mv [.t 8],
             .op (some 5) none .mv [.t 10]])
           (.seq
            (.reg [
              .op (some 11) none .mv [.t 1],
              .op (some 12) none .mv [.t 0],
              .op (some 13) none .mv [.t 5],
              .op (some 14) none (.idxa 2) [.t 12, .t 13],
              .op (some 15) none (.load 2 true) [.t 14],
              .dyn (some 16) none (.t 11) [.t 15]])
            (.cond (.t 16)
             (.seq
              (.reg [
                .op (some 17) none .mv [.t 5],
                .op (some 4) none .mv [.t 17]])
              .ret)
             .skip))))
         (.reg [
           .op (some 18) none (.bin .add) [.t 8, .c (.int .i64 1)],
           .op (some 8) none .mv [.t 18]])))))))
   (.seq
    (.reg [
      .op (some 4) none .mv [.c (.int .i64 (-1))]])
    .ret)))⟩
set_option maxRecDepth 100000 in
theorem af282 : compF Tryz.prog 282 = some AF282 := by kernel_rfl

/-- Function 289. -/
def AF289 : AF := ⟨16, [.tmp 4],
 (.seq
  (.reg [
    .op (some 4) none .mv [.c (.bool false)]])
  (.seq
   (.reg [
     .op (some 5) none .mv [.t 0],
     .call (some 6) none 38 [.t 5],
     .op (some 7) none .mv [.t 6],
     .op (some 8) (some (7, true)) .mv [.t 0],
     .op (some 9) (some (7, true)) .mv [.t 0],
     .op (some 10) (some (7, true)) .mv [.t 1],
     .call (some 11) (some (7, true)) 41 [.t 9, .t 10],
     .call (some 12) (some (7, true)) 302 [.t 8, .t 11],
     .op (some 13) (some (7, true)) .mv [.t 1],
     .op (some 14) (some (7, true)) (.bin .eql) [.t 12, .t 13],
     .op (some 15) none .pick [.t 7, .t 14, .c (.bool false)],
     .op (some 4) none .mv [.t 15]])
   .ret))⟩
set_option maxRecDepth 100000 in
theorem af289 : compF Tryz.prog 289 = some AF289 := by kernel_rfl

/-- Function 294. -/
def AF294 : AF := ⟨43, [.tmp 2],
 (.seq
  (.reg [
    .op (some 1) none .box [.t 0],
    .op (some 2) none .mv [.c (.raw .nilIface)]])
  (.seq
   (.seq
    (.reg [
      .op (some 5) none (.faddr 0) [.t 1],
      .op (some 6) none (.load 2 true) [.t 5],
      .call (some 7) none 305 [.t 6],
      .op (some 3) none .mv [.t 7]])
    (.seq
     (.reg [
       .op (some 8) none .mv [.t 3],
       .op (some 9) none (.nileq 0 true) [.t 8]])
     (.cond (.t 9)
      (.seq
       (.reg [
         .op (some 10) none .mv [.t 3],
         .op (some 2) none .mv [.t 10]])
       .ret)
      .skip)))
   (.seq
    (.reg [
      .op (some 11) none (.faddr 0) [.t 1],
      .op (some 12) none (.faddr 1) [.t 11],
      .op (some 13) none (.load 1 false) [.t 12],
      .op (some 14) none (.bin .eql) [.t 13, .c (.int .i64 2)],
      .op (some 4) none .mv [.t 14]])
    (.seq
     (.block 0
      (.seq
       (.reg [
         .op (some 16) none .mv [.t 4],
         .op (some 17) none .mv [.t 16],
         .op (some 18) (some (17, true)) (.faddr 2) [.t 1],
         .op (some 19) (some (17, true)) (.load 1 false) [.t 18],
         .op (some 20) (some (17, true)) (.bin .neq) [.t 19, .c (.int .u64 0)],
         .op (some 21) none .pick [.t 17, .t 20, .c (.bool false)],
         .op (some 22) none .mv [.t 21],
         .op (some 23) (some (22, false)) .mv [.t 4],
         .op (some 24) (some (22, false)) (.un .not) [.t 23],
         .op (some 25) (some (22, false)) .mv [.t 24],
         .op (some 26) (some (25, true)) (.faddr 3) [.t 1],
         .op (some 27) (some (25, true)) (.load 1 false) [.t 26],
         .op (some 28) (some (25, true)) (.bin .neq) [.t 27, .c (.str [])],
         .op (some 29) (some (22, false)) .pick [.t 25, .t 28, .c (.bool false)],
         .op (some 30) none .pick [.t 22, .c (.bool true), .t 29],
         .op (some 15) none .mv [.t 30]])
       (.cond (.t 15)
        (.seq
         (.reg [
           .op (some 31) none (.load 1 false) [.g 1],
           .op (some 2) none .mv [.t 31]])
         .ret)
        (.seq
         (.reg [
           .op (some 33) none (.faddr 0) [.t 1],
           .op (some 34) none (.faddr 1) [.t 33],
           .op (some 35) none (.load 1 false) [.t 34],
           .op (some 36) none (.bin .eql) [.t 35, .c (.int .i64 5)],
           .op (some 37) none .mv [.t 36],
           .op (some 38) (some (37, true)) (.faddr 2) [.t 1],
           .op (some 39) (some (37, true)) (.load 1 false) [.t 38],
           .op (some 40) (some (37, true)) (.bin .gtr) [.t 39, .c (.int .u64 4294967295)],
           .op (some 41) none .pick [.t 37, .t 40, .c (.bool false)],
           .op (some 32) none .mv [.t 41]])
         (.cond (.t 32)
          (.seq
           (.reg [
             .op (some 42) none (.load 1 false) [.g 6],
             .op (some 2) none .mv [.t 42]])
           .ret)
          .skip)))))
     (.seq
      (.reg [
        .op (some 2) none .mv [.c (.raw .nilIface)]])
      .ret)))))⟩
set_option maxRecDepth 100000 in
theorem af294 : compF Tryz.prog 294 = some AF294 := by kernel_rfl

/-- Function 295. -/
def AF295 : AF := ⟨13, [.tmp 2, .tmp 3],
 (.seq
  (.reg [
    .op (some 1) none .box [.t 0],
    .op (some 2) none .mv [.c (.raw (.slice none 0 0))],
    .op (some 3) none .mv [.c (.raw .nilIface)]])
  (.seq
   (.seq
    (.reg [
      .op (some 5) none (.load 2 true) [.t 1],
      .call (some 6) none 305 [.t 5],
      .op (some 4) none .mv [.t 6]])
    (.seq
     (.reg [
       .op (some 7) none .mv [.t 4],
       .op (some 8) none (.nileq 0 true) [.t 7]])
     (.cond (.t 8)
      (.seq
       (.reg [
         .op (some 9) none .mv [.t 4],
         .op (some 2) none .mv [.c (.raw (.slice none 0 0))],
         .op (some 3) none .mv [.t 9]])
       .ret)
      .skip)))
   (.seq
    (.reg [
      .op (some 10) none (.load 2 true) [.t 1],
      .call (some 11) none 312 [.t 10],
      .call (some 12) none 76 [.c (.raw (.slice none 0 0)), .t 11],
      .op (some 2) none .mv [.t 12],
      .op (some 3) none .mv [.c (.raw .nilIface)]])
    .ret)))⟩
set_option maxRecDepth 100000 in
theorem af295 : compF Tryz.prog 295 = some AF295 := by kernel_rfl

/-- Function 302. -/
def AF302 : AF := ⟨9, [.tmp 4],
 (.seq
  (.reg [
    .op (some 4) none .mv [.c (.int .u64 0)]])
  (.seq
   (.reg [
     .op (some 5) none .mv [.t 0],
     .call (some 6) none 317 [.t 5],
     .op (some 7) none .mv [.t 1],
     .dyn (some 8) none (.t 6) [.t 7],
     .op (some 4) none .mv [.t 8]])
   .ret))⟩
set_option maxRecDepth 100000 in
theorem af302 : compF Tryz.prog 302 = some AF302 := by kernel_rfl

/-- Function 305. -/
def AF305 : AF := ⟨24, [.tmp 2],
 (.seq
  (.reg [
    .op (some 1) none .box [.t 0],
    .op (some 2) none .mv [.c (.raw .nilIface)]])
  (.seq
   (.seq
    (.reg [
      .op (some 3) none (.faddr 0) [.t 1],
      .op (some 4) none (.load 1 false) [.t 3],
      .op (some 5) none (.bin .lss) [.t 4, .c (.int .i64 1)],
      .op (some 6) none .mv [.t 5],
      .op (some 7) (some (6, false)) (.faddr 0) [.t 1],
      .op (some 8) (some (6, false)) (.load 1 false) [.t 7],
      .op (some 9) (some (6, false)) (.bin .gtr) [.t 8, .c (.int .i64 536870911)],
      .op (some 10) none .pick [.t 6, .c (.bool true), .t 9]])
    (.cond (.t 10)
     (.seq
      (.reg [
        .op (some 11) none (.load 1 false) [.g 9],
        .op (some 2) none .mv [.t 11]])
      .ret)
     .skip))
   (.seq
    (.seq
     (.reg [
       .op (some 12) none (.faddr 1) [.t 1],
       .op (some 13) none (.load 1 false) [.t 12]])
     (.block 0
      (.seq
       (.seq
        (.reg [
          .op (some 15) none (.bin .eql) [.t 13, .c (.int .i64 0)],
          .op (some 14) none .mv [.t 15]])
        (.cond (.t 14)
         .skip
         (.seq
          (.reg [
            .op (some 16) none (.bin .eql) [.t 13, .c (.int .i64 1)],
            .op (some 14) none .mv [.t 16]])
          (.cond (.t 14)
           .skip
           (.seq
            (.reg [
              .op (some 17) none (.bin .eql) [.t 13, .c (.int .i64 2)],
              .op (some 14) none .mv [.t 17]])
            (.cond (.t 14)
             .skip
             (.reg [
               .op (some 18) none (.bin .eql) [.t 13, .c (.int .i64 5)],
               .op (some 14) none .mv [.t 18]])))))))
       (.cond (.t 14)
        (.seq
         (.reg [
           .op (some 2) none .mv [.c (.raw .nilIface)]])
         .ret)
        (.seq
         (.seq
          (.reg [
            .op (some 20) none (.bin .eql) [.t 13, .c (.int .i64 3)],
            .op (some 19) none .mv [.t 20]])
          (.cond (.t 19)
           .skip
           (.reg [
             .op (some 21) none (.bin .eql) [.t 13, .c (.int .i64 4)],
             .op (some 19) none .mv [.t 21]])))
         (.cond (.t 19)
          (.seq
           (.reg [
             .op (some 22) none (.load 1 false) [.g 10],
             .op (some 2) none .mv [.t 22]])
           .ret)
          .skip))))))
    (.seq
     (.reg [
       .op (some 23) none (.load 1 false) [.g 12],
       .op (some 2) none .mv [.t 23]])
     .ret))))⟩
set_option maxRecDepth 100000 in
theorem af305 : compF Tryz.prog 305 = some AF305 := by kernel_rfl

/-- Function 312. -/
def AF312 : AF := ⟨11, [.tmp 2],
 (.seq
  (.reg [
    .op (some 1) none .box [.t 0],
    .op (some 2) none .mv [.c (.int .u64 0)]])
  (.seq
   (.reg [
     .op (some 3) none (.faddr 0) [.t 1],
     .op (some 4) none (.load 1 false) [.t 3],
     .op (some 5) none (.conv .u64) [.t 4],
     .op (some 6) none (.bin .shl) [.t 5, .c (.int .u64 3)],
     .op (some 7) none (.faddr 1) [.t 1],
     .op (some 8) none (.load 1 false) [.t 7],
     .op (some 9) none (.conv .u64) [.t 8],
     .op (some 10) none (.bin .or) [.t 6, .t 9],
     .op (some 2) none .mv [.t 10]])
   .ret))⟩
set_option maxRecDepth 100000 in
theorem af312 : compF Tryz.prog 312 = some AF312 := by kernel_rfl

/-- Function 317. -/
def AF317 : AF := ⟨21, [.tmp 2],
 (.seq
  (.reg [
    .op (some 2) none .mv [.c (.raw .nilFunc)]])
  (.seq
   (.seq
    (.reg [
      .op (some 3) none .mv [.t 0]])
    (.block 0
     (.seq
      (.seq
       (.reg [
         .op (some 5) none (.bin .eql) [.t 3, .c (.int .i64 3)],
         .op (some 4) none .mv [.t 5]])
       (.cond (.t 4)
        .skip
        (.seq
         (.reg [
           .op (some 6) none (.bin .eql) [.t 3, .c (.int .i64 16)],
           .op (some 4) none .mv [.t 6]])
         (.cond (.t 4)
          .skip
          (.reg [
            .op (some 7) none (.bin .eql) [.t 3, .c (.int .i64 11)],
            .op (some 4) none .mv [.t 7]])))))
      (.cond (.t 4)
       (.seq
        (.reg [
          .op (some 2) none .mv [.c (.fn (.func 329) [] [])]])
        .ret)
       (.seq
        (.seq
         (.reg [
           .op (some 9) none (.bin .eql) [.t 3, .c (.int .i64 5)],
           .op (some 8) none .mv [.t 9]])
         (.cond (.t 8)
          .skip
          (.seq
           (.reg [
             .op (some 10) none (.bin .eql) [.t 3, .c (.int .i64 9)],
             .op (some 8) none .mv [.t 10]])
           (.cond (.t 8)
            .skip
            (.reg [
              .op (some 11) none (.bin .eql) [.t 3, .c (.int .i64 2)],
              .op (some 8) none .mv [.t 11]])))))
        (.cond (.t 8)
         (.seq
          (.reg [
            .op (some 2) none .mv [.c (.fn (.func 137) [] [])]])
          .ret)
         (.seq
          (.reg [
            .op (some 13) none (.bin .eql) [.t 3, .c (.int .i64 7)],
            .op (some 12) none .mv [.t 13]])
          (.cond (.t 12)
           (.seq
            (.reg [
              .op (some 2) none .mv [.c (.fn (.func 330) [] [])]])
            .ret)
           (.seq
            (.reg [
              .op (some 15) none (.bin .eql) [.t 3, .c (.int .i64 8)],
              .op (some 14) none .mv [.t 15]])
            (.cond (.t 14)
             (.seq
              (.reg [
                .op (some 2) none .mv [.c (.fn (.func 331) [] [])]])
              .ret)
             (.seq
              (.reg [
                .op (some 17) none (.bin .eql) [.t 3, .c (.int .i64 13)],
                .op (some 16) none .mv [.t 17]])
              (.cond (.t 16)
               (.seq
                (.reg [
                  .op (some 2) none .mv [.c (.fn (.func 332) [] [])]])
                .ret)
               .skip))))))))))))
   (.seq
    (.seq
     (.reg [
       .op (some 18) none .mv [.t 0],
       .call (some 19) none 38 [.t 18],
       .op (some 20) none (.un .not) [.t 19]])
     (.cond (.t 20)
      (.seq
       (.reg [
         .op (some 2) none .mv [.c (.fn (.func 138) [] [])]])
       .ret)
      .skip))
    (.seq
     (.reg [
       .op (some 2) none .mv [.c (.fn (.func 139) [] [])]])
     .ret))))⟩
set_option maxRecDepth 100000 in
theorem af317 : compF Tryz.prog 317 = some AF317 := by kernel_rfl

/-- Function 329. -/
def AF329 : AF := ⟨7, [.tmp 2],
 (.seq
  (.reg [
    .op (some 2) none .mv [.c (.int .u64 0)]])
  (.seq
   (.reg [
     .op (some 3) none .mv [.t 0],
     .op (some 4) none (.conv .i32) [.t 3],
     .op (some 5) none (.conv .i64) [.t 4],
     .op (some 6) none (.conv .u64) [.t 5],
     .op (some 2) none .mv [.t 6]])
   .ret))⟩
set_option maxRecDepth 100000 in
theorem af329 : compF Tryz.prog 329 = some AF329 := by kernel_rfl

/-- Function 5. -/
def AF5 : AF := ⟨36, [.tmp 4],
 (.seq
  (.reg [
    .op (some 4) none .mv [.c (.bool false)]])
  (.seq
   (.seq
    (.reg [
      .call (some 7) none 16 [],
      .op (some 8) none (.un .not) [.t 7]])
    (.cond (.t 8)
     (.seq
      (.reg [
        .op (some 4) none .mv [.c (.bool false)]])
      .ret)
     .skip))
   (.seq
    (.seq
     (.reg [
       .op (some 9) none .mv [.t 1],
       .op (some 10) none .len [.t 9],
       .op (some 11) none (.bin .gtr) [.t 10, .c (.int .i64 60)]])
     (.cond (.t 11)
      (.seq
       (.reg [
         .op (some 4) none .mv [.c (.bool true)]])
       .ret)
      .skip))
    (.seq
     (.seq
      (.reg [
        .op (some 12) none .mv [.t 1],
        .op (some 13) none .len [.t 12],
        .op (some 14) none .mv [.c (.int .i64 0)]])
      (.block 0
       (.loop
        (.seq
         (.reg [
           .op (some 15) none (.bin .lss) [.t 14, .t 13]])
         (.seq
          (.cond (.t 15)
           .skip
           (.exit 0))
          (.seq
           (.block 1
            (.seq
             (.reg [
               .op (some 16) none (.idxa 1) [.t 12, .t 14],
               .op (some 17) none (.load 1 false) [.t 16],
               .op (some 6) none .mv [.t 17]])
             (.seq
              (.reg [
                .op (some 18) none .mv [.t 0],
                .op (some 19) none .mv [.t 6],
                .call (some 20) none 17 [.t 18, .t 19],
                .op (some 21) none (.un .not) [.t 20]])
              (.cond (.t 21)
               (.seq
                (.reg [
                  .op (some 22) none .mv [.t 1],
                  .call (some 23) none 18 [.c (.int .i64 0), .t 22],
                  .op (some 24) none .len [.t 23],
                  .op (some 25) none (.bin .eql) [.t 24, .c (.int .i64 0)],
                  .op (some 4) none .mv [.t 25]])
                .ret)
               .skip))))
           (.reg [
             .op (some 26) none (.bin .add) [.t 14, .c (.int .i64 1)],
             .op (some 14) none .mv [.t 26]])))))))
     (.seq
      (.draw [
        .op (some 27) none .mv [.t 0],
        .op (some 28) none .mv [.t 1],
        .call (some 29) none 18 [.t 27, .t 28],
        .op (some 30) none .b2s [.t 29],
        .op (some 31) none .mv [.t 0],
        .op (some 32) none .mv [.t 1],
        .call (some 33) none 19 [.t 31, .t 32],
        .op (some 34) none .b2s [.t 33],
        .op (some 35) none (.bin .eql) [.t 30, .t 34],
        .op (some 4) none .mv [.t 35]]
        [[], [], [0, 1], [2, 0, 1], [], [], [4, 5, 2, 0, 1], [6, 4, 5, 2, 0, 1], [3, 7, 6, 4, 5, 2, 0, 1], [8, 3, 7, 6, 4, 5, 2, 0, 1]])
      .ret)))))⟩
set_option maxRecDepth 100000 in
theorem af5 : compF Tryz.prog 5 = some AF5 := by kernel_rfl
end Go.Proofs

