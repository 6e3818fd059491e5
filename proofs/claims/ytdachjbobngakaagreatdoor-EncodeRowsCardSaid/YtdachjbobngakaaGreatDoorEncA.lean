/-
  The compiled form of the functions that encode numbers, each proved to be what the compiler gives for the program's function. No conditions.
-/
import Derived.Test.YtdachjbobngakaaGreatDoorProg
import Derived.Test.YtdachjbobngakaaGreatDoorAbsD
namespace Go.Proofs
open Go Go.Abs
/-- Function 36. -/
def AF36 : AF := ⟨10, [.tmp 2],
 (.seq
  (.reg [
    .op (some 2) none .mv [.c (.int .u64 0)]])
  (.seq
   (.reg [
     .op (some 3) none .mv [.t 0],
     .op (some 4) none (.bin .rem) [.t 3, .c (.int .u64 4294967296)],
     .op (some 0) none .mv [.t 4]])
   (.seq
    (.seq
     (.reg [
       .op (some 5) none .mv [.t 0],
       .op (some 6) none (.bin .geq) [.t 5, .c (.int .u64 2147483648)]])
     (.cond (.t 6)
      (.seq
       (.reg [
         .op (some 7) none .mv [.t 0],
         .op (some 8) none (.bin .add) [.t 7, .c (.int .u64 18446744069414584320)],
         .op (some 2) none .mv [.t 8]])
       .ret)
      .skip))
    (.seq
     (.reg [
       .op (some 9) none .mv [.t 0],
       .op (some 2) none .mv [.t 9]])
     .ret))))⟩
set_option maxRecDepth 100000 in
theorem af36 : compF Tryz.prog 36 = some AF36 := by kernel_rfl

/-- Function 37. -/
def AF37 : AF := ⟨13, [.tmp 2],
 (.seq
  (.reg [
    .op (some 2) none .mv [.c (.bool false)]])
  (.seq
   (.reg [
     .op (some 3) none .mv [.t 0],
     .op (some 4) none (.bin .geq) [.t 3, .c (.int .i64 1)],
     .op (some 5) none .mv [.t 4],
     .op (some 6) (some (5, true)) .mv [.t 0],
     .op (some 7) (some (5, true)) (.bin .leq) [.t 6, .c (.int .i64 13)],
     .op (some 8) none .pick [.t 5, .t 7, .c (.bool false)],
     .op (some 9) none .mv [.t 8],
     .op (some 10) (some (9, false)) .mv [.t 0],
     .op (some 11) (some (9, false)) (.bin .eql) [.t 10, .c (.int .i64 16)],
     .op (some 12) none .pick [.t 9, .c (.bool true), .t 11],
     .op (some 2) none .mv [.t 12]])
   .ret))⟩
set_option maxRecDepth 100000 in
theorem af37 : compF Tryz.prog 37 = some AF37 := by kernel_rfl

/-- Function 17. -/
def AF17 : AF := ⟨27, [.tmp 4],
 (.seq
  (.reg [
    .op (some 4) none .mv [.c (.bool false)]])
  (.seq
   (.seq
    (.reg [
      .op (some 5) none .mv [.t 0]])
    (.block 0
     (.seq
      (.seq
       (.reg [
         .op (some 7) none (.bin .eql) [.t 5, .c (.int .i64 3)],
         .op (some 6) none .mv [.t 7]])
       (.cond (.t 6)
        .skip
        (.seq
         (.reg [
           .op (some 8) none (.bin .eql) [.t 5, .c (.int .i64 7)],
           .op (some 6) none .mv [.t 8]])
         (.cond (.t 6)
          .skip
          (.seq
           (.reg [
             .op (some 9) none (.bin .eql) [.t 5, .c (.int .i64 11)],
             .op (some 6) none .mv [.t 9]])
           (.cond (.t 6)
            .skip
            (.reg [
              .op (some 10) none (.bin .eql) [.t 5, .c (.int .i64 16)],
              .op (some 6) none .mv [.t 10]])))))))
      (.cond (.t 6)
       (.seq
        (.reg [
          .op (some 11) none .mv [.t 1],
          .call (some 12) none 36 [.t 11],
          .op (some 13) none .mv [.t 1],
          .op (some 14) none (.bin .eql) [.t 12, .t 13],
          .op (some 4) none .mv [.t 14]])
        .ret)
       (.seq
        (.seq
         (.reg [
           .op (some 16) none (.bin .eql) [.t 5, .c (.int .i64 2)],
           .op (some 15) none .mv [.t 16]])
         (.cond (.t 15)
          .skip
          (.seq
           (.reg [
             .op (some 17) none (.bin .eql) [.t 5, .c (.int .i64 5)],
             .op (some 15) none .mv [.t 17]])
           (.cond (.t 15)
            .skip
            (.reg [
              .op (some 18) none (.bin .eql) [.t 5, .c (.int .i64 9)],
              .op (some 15) none .mv [.t 18]])))))
        (.cond (.t 15)
         (.seq
          (.reg [
            .op (some 19) none .mv [.t 1],
            .op (some 20) none (.bin .lss) [.t 19, .c (.int .u64 4294967296)],
            .op (some 4) none .mv [.t 20]])
          .ret)
         (.seq
          (.reg [
            .op (some 22) none (.bin .eql) [.t 5, .c (.int .i64 13)],
            .op (some 21) none .mv [.t 22]])
          (.cond (.t 21)
           (.seq
            (.reg [
              .op (some 23) none .mv [.t 1],
              .op (some 24) none (.bin .lss) [.t 23, .c (.int .u64 2)],
              .op (some 4) none .mv [.t 24]])
            .ret)
           .skip))))))))
   (.seq
    (.reg [
      .op (some 25) none .mv [.t 0],
      .call (some 26) none 37 [.t 25],
      .op (some 4) none .mv [.t 26]])
    .ret)))⟩
set_option maxRecDepth 100000 in
theorem af17 : compF Tryz.prog 17 = some AF17 := by kernel_rfl

/-- Function 38. -/
def AF38 : AF := ⟨13, [.tmp 2],
 (.seq
  (.reg [
    .op (some 2) none .mv [.c (.bool false)]])
  (.seq
   (.reg [
     .op (some 3) none .mv [.t 0],
     .op (some 4) none (.bin .geq) [.t 3, .c (.int .i64 1)],
     .op (some 5) none .mv [.t 4],
     .op (some 6) (some (5, true)) .mv [.t 0],
     .op (some 7) (some (5, true)) (.bin .leq) [.t 6, .c (.int .i64 13)],
     .op (some 8) none .pick [.t 5, .t 7, .c (.bool false)],
     .op (some 9) none .mv [.t 8],
     .op (some 10) (some (9, false)) .mv [.t 0],
     .op (some 11) (some (9, false)) (.bin .eql) [.t 10, .c (.int .i64 16)],
     .op (some 12) none .pick [.t 9, .c (.bool true), .t 11],
     .op (some 2) none .mv [.t 12]])
   .ret))⟩
set_option maxRecDepth 100000 in
theorem af38 : compF Tryz.prog 38 = some AF38 := by kernel_rfl

/-- Function 39. -/
def AF39 : AF := ⟨8, [.tmp 2],
 (.seq
  (.reg [
    .op (some 2) none .mv [.c (.raw .nilFunc)]])
  (.seq
   (.seq
    (.reg [
      .op (some 3) none .mv [.t 0]])
    (.block 0
     (.seq
      (.reg [
        .op (some 5) none (.bin .eql) [.t 3, .c (.int .i64 1)],
        .op (some 4) none .mv [.t 5]])
      (.cond (.t 4)
       (.seq
        (.reg [
          .op (some 2) none .mv [.c (.fn (.func 73) [] [])]])
        .ret)
       (.seq
        (.reg [
          .op (some 7) none (.bin .eql) [.t 3, .c (.int .i64 5)],
          .op (some 6) none .mv [.t 7]])
        (.cond (.t 6)
         (.seq
          (.reg [
            .op (some 2) none .mv [.c (.fn (.func 74) [] [])]])
          .ret)
         .skip))))))
   (.seq
    (.reg [
      .op (some 2) none .mv [.c (.fn (.func 76) [] [])]])
    .ret)))⟩
set_option maxRecDepth 100000 in
theorem af39 : compF Tryz.prog 39 = some AF39 := by kernel_rfl

/-- Function 40. -/
def AF40 : AF := ⟨19, [.tmp 2],
 (.seq
  (.reg [
    .op (some 2) none .mv [.c (.int .i64 0)]])
  (.seq
   (.seq
    (.reg [
      .op (some 3) none .mv [.t 0]])
    (.block 0
     (.seq
      (.seq
       (.reg [
         .op (some 5) none (.bin .eql) [.t 3, .c (.int .i64 1)],
         .op (some 4) none .mv [.t 5]])
       (.cond (.t 4)
        .skip
        (.seq
         (.reg [
           .op (some 6) none (.bin .eql) [.t 3, .c (.int .i64 10)],
           .op (some 4) none .mv [.t 6]])
         (.cond (.t 4)
          .skip
          (.reg [
            .op (some 7) none (.bin .eql) [.t 3, .c (.int .i64 12)],
            .op (some 4) none .mv [.t 7]])))))
      (.cond (.t 4)
       (.seq
        (.reg [
          .op (some 2) none .mv [.c (.int .i64 1)]])
        .ret)
       (.seq
        (.seq
         (.reg [
           .op (some 9) none (.bin .eql) [.t 3, .c (.int .i64 2)],
           .op (some 8) none .mv [.t 9]])
         (.cond (.t 8)
          .skip
          (.seq
           (.reg [
             .op (some 10) none (.bin .eql) [.t 3, .c (.int .i64 9)],
             .op (some 8) none .mv [.t 10]])
           (.cond (.t 8)
            .skip
            (.reg [
              .op (some 11) none (.bin .eql) [.t 3, .c (.int .i64 11)],
              .op (some 8) none .mv [.t 11]])))))
        (.cond (.t 8)
         (.seq
          (.reg [
            .op (some 2) none .mv [.c (.int .i64 5)]])
          .ret)
         (.seq
          (.seq
           (.reg [
             .op (some 13) none (.bin .eql) [.t 3, .c (.int .i64 14)],
             .op (some 12) none .mv [.t 13]])
           (.cond (.t 12)
            .skip
            (.seq
             (.reg [
               .op (some 14) none (.bin .eql) [.t 3, .c (.int .i64 15)],
               .op (some 12) none .mv [.t 14]])
             (.cond (.t 12)
              .skip
              (.reg [
                .op (some 15) none (.bin .eql) [.t 3, .c (.int .i64 17)],
                .op (some 12) none .mv [.t 15]])))))
          (.cond (.t 12)
           (.seq
            (.reg [
              .op (some 2) none .mv [.c (.int .i64 2)]])
            .ret)
           .skip))))))))
   (.seq
    (.seq
     (.reg [
       .op (some 16) none .mv [.t 0],
       .call (some 17) none 38 [.t 16],
       .op (some 18) none (.un .not) [.t 17]])
     (.cond (.t 18)
      (.seq
       (.reg [
         .op (some 2) none .mv [.c (.int .i64 (-1))]])
       .ret)
      .skip))
    (.seq
     (.reg [
       .op (some 2) none .mv [.c (.int .i64 0)]])
     .ret))))⟩
set_option maxRecDepth 100000 in
theorem af40 : compF Tryz.prog 40 = some AF40 := by kernel_rfl

/-- Function 41. -/
def AF41 : AF := ⟨9, [.tmp 4],
 (.seq
  (.reg [
    .op (some 4) none .mv [.c (.int .u64 0)]])
  (.seq
   (.reg [
     .op (some 5) none .mv [.t 0],
     .call (some 6) none 77 [.t 5],
     .op (some 7) none .mv [.t 1],
     .dyn (some 8) none (.t 6) [.t 7],
     .op (some 4) none .mv [.t 8]])
   .ret))⟩
set_option maxRecDepth 100000 in
theorem af41 : compF Tryz.prog 41 = some AF41 := by kernel_rfl

/-- Function 77. -/
def AF77 : AF := ⟨12, [.tmp 2],
 (.seq
  (.reg [
    .op (some 2) none .mv [.c (.raw .nilFunc)]])
  (.seq
   (.seq
    (.reg [
      .op (some 3) none .mv [.t 0]])
    (.block 0
     (.seq
      (.seq
       (.reg [
         .op (some 5) none (.bin .eql) [.t 3, .c (.int .i64 7)],
         .op (some 4) none .mv [.t 5]])
       (.cond (.t 4)
        .skip
        (.reg [
          .op (some 6) none (.bin .eql) [.t 3, .c (.int .i64 8)],
          .op (some 4) none .mv [.t 6]])))
      (.cond (.t 4)
       (.seq
        (.reg [
          .op (some 2) none .mv [.c (.fn (.func 136) [] [])]])
        .ret)
       (.seq
        (.reg [
          .op (some 8) none (.bin .eql) [.t 3, .c (.int .i64 11)],
          .op (some 7) none .mv [.t 8]])
        (.cond (.t 7)
         (.seq
          (.reg [
            .op (some 2) none .mv [.c (.fn (.func 137) [] [])]])
          .ret)
         .skip))))))
   (.seq
    (.seq
     (.reg [
       .op (some 9) none .mv [.t 0],
       .call (some 10) none 38 [.t 9],
       .op (some 11) none (.un .not) [.t 10]])
     (.cond (.t 11)
      (.seq
       (.reg [
         .op (some 2) none .mv [.c (.fn (.func 138) [] [])]])
       .ret)
      .skip))
    (.seq
     (.reg [
       .op (some 2) none .mv [.c (.fn (.func 139) [] [])]])
     .ret))))⟩
set_option maxRecDepth 100000 in
theorem af77 : compF Tryz.prog 77 = some AF77 := by kernel_rfl

/-- Function 136. -/
def AF136 : AF := ⟨6, [.tmp 2],
 (.seq
  (.reg [
    .op (some 2) none .mv [.c (.int .u64 0)]])
  (.seq
   (.reg [
     .op (some 3) none .mv [.t 0],
     .op (some 4) none (.conv .i64) [.t 3],
     .call (some 5) none 187 [.t 4],
     .op (some 2) none .mv [.t 5]])
   .ret))⟩
set_option maxRecDepth 100000 in
theorem af136 : compF Tryz.prog 136 = some AF136 := by kernel_rfl

/-- Function 137. -/
def AF137 : AF := ⟨6, [.tmp 2],
 (.seq
  (.reg [
    .op (some 2) none .mv [.c (.int .u64 0)]])
  (.seq
   (.reg [
     .op (some 3) none .mv [.t 0],
     .op (some 4) none (.conv .u32) [.t 3],
     .op (some 5) none (.conv .u64) [.t 4],
     .op (some 2) none .mv [.t 5]])
   .ret))⟩
set_option maxRecDepth 100000 in
theorem af137 : compF Tryz.prog 137 = some AF137 := by kernel_rfl

/-- Function 138. -/
def AF138 : AF := ⟨3, [.tmp 2],
 (.seq
  (.reg [
    .op (some 2) none .mv [.c (.int .u64 0)]])
  (.seq
   (.reg [
     .op (some 2) none .mv [.c (.int .u64 0)]])
   .ret))⟩
set_option maxRecDepth 100000 in
theorem af138 : compF Tryz.prog 138 = some AF138 := by kernel_rfl

/-- Function 139. -/
def AF139 : AF := ⟨4, [.tmp 2],
 (.seq
  (.reg [
    .op (some 2) none .mv [.c (.int .u64 0)]])
  (.seq
   (.reg [
     .op (some 3) none .mv [.t 0],
     .op (some 2) none .mv [.t 3]])
   .ret))⟩
set_option maxRecDepth 100000 in
theorem af139 : compF Tryz.prog 139 = some AF139 := by kernel_rfl

/-- Function 187. -/
def AF187 : AF := ⟨10, [.tmp 2],
 (.seq
  (.reg [
    .op (some 2) none .mv [.c (.int .u64 0)]])
  (.seq
   (.reg [
     .op (some 3) none .mv [.t 0],
     .op (some 4) none (.conv .u64) [.t 3],
     .op (some 5) none (.bin .shl) [.t 4, .c (.int .u64 1)],
     .op (some 6) none .mv [.t 0],
     .op (some 7) none (.bin .shr) [.t 6, .c (.int .u64 63)],
     .op (some 8) none (.conv .u64) [.t 7],
     .op (some 9) none (.bin .xor) [.t 5, .t 8],
     .op (some 2) none .mv [.t 9]])
   .ret))⟩
set_option maxRecDepth 100000 in
theorem af187 : compF Tryz.prog 187 = some AF187 := by kernel_rfl

/-- Function 135. -/
def AF135 : AF := ⟨8, [.tmp 2],
 (.seq
  (.reg [
    .op (some 2) none .mv [.c (.raw (.slice none 0 0))]])
  (.seq
   (.seq
    (.reg [
      .op (some 3) none .mv [.t 0],
      .op (some 4) none (.nileq 3 false) [.t 3]])
    (.cond (.t 4)
     (.seq
      (.reg [
        .op (some 2) none .mv [.c (.raw (.slice none 0 0))]])
      .ret)
     .skip))
   (.seq
    (.reg [
      .op (some 5) none (.lit 5 1) [],
      .op (some 6) none .mv [.t 0],
      .op (some 7) none (.app 5 1 1) [.t 5, .t 6],
      .op (some 2) none .mv [.t 7]])
    .ret)))⟩
set_option maxRecDepth 100000 in
theorem af135 : compF Tryz.prog 135 = some AF135 := by kernel_rfl

/-- Function 133. -/
def AF133 : AF := ⟨25, [.tmp 6],
 (.seq
  (.reg [
    .op (some 6) none .mv [.c (.raw (.slice none 0 0))]])
  (.seq
   (.reg [
     .op (some 9) none .mv [.t 0],
     .call (some 10) none 135 [.t 9],
     .op (some 7) none .mv [.t 10]])
   (.seq
    (.seq
     (.reg [
       .op (some 11) none .mv [.t 2],
       .op (some 12) none .mv [.c (.int .i64 0)]])
     (.block 0
      (.loop
       (.seq
        (.reg [
          .op (some 13) none (.bin .lss) [.t 12, .t 11]])
        (.seq
         (.cond (.t 13)
          .skip
          (.exit 0))
         (.seq
          (.block 1
           (.seq
            (.reg [
              .op (some 14) none .mv [.t 12],
              .op (some 8) none .mv [.t 14]])
            (.reg [
              .op (some 15) none .mv [.t 7],
              .op (some 16) none .mv [.t 1],
              .op (some 17) none .mv [.t 8],
              .op (some 18) none (.bin .mul) [.c (.int .i64 8), .t 17],
              .op (some 19) none (.bin .shr) [.t 16, .t 18],
              .op (some 20) none (.conv .u8) [.t 19],
              .op (some 21) none (.lit 5 1) [.t 20],
              .op (some 22) none (.app 5 1 1) [.t 15, .t 21],
              .op (some 7) none .mv [.t 22]])))
          (.reg [
            .op (some 23) none (.bin .add) [.t 12, .c (.int .i64 1)],
            .op (some 12) none .mv [.t 23]])))))))
    (.seq
     (.reg [
       .op (some 24) none .mv [.t 7],
       .op (some 6) none .mv [.t 24]])
     .ret))))⟩
set_option maxRecDepth 100000 in
theorem af133 : compF Tryz.prog 133 = some AF133 := by kernel_rfl

/-- Function 134. -/
def AF134 : AF := ⟨20, [.tmp 4],
 (.seq
  (.reg [
    .op (some 4) none .mv [.c (.raw (.slice none 0 0))]])
  (.seq
   (.block 0
    (.loop
     (.seq
      (.seq
       (.reg [
         .op (some 5) none .mv [.t 1],
         .op (some 6) none (.bin .geq) [.t 5, .c (.int .u64 128)]])
       (.cond (.t 6)
        .skip
        (.exit 0)))
      (.seq
       (.block 1
        (.reg [
          .op (some 9) none .mv [.t 0],
          .op (some 10) none .mv [.t 1],
          .op (some 11) none (.conv .u8) [.t 10],
          .op (some 12) none (.bin .or) [.t 11, .c (.int .u8 128)],
          .op (some 13) none (.lit 5 1) [.t 12],
          .op (some 14) none (.app 5 1 1) [.t 9, .t 13],
          .op (some 0) none .mv [.t 14]]))
       (.reg [
         .op (some 7) none .mv [.t 1],
         .op (some 8) none (.bin .shr) [.t 7, .c (.int .u64 7)],
         .op (some 1) none .mv [.t 8]])))))
   (.seq
    (.reg [
      .op (some 15) none .mv [.t 0],
      .op (some 16) none .mv [.t 1],
      .op (some 17) none (.conv .u8) [.t 16],
      .op (some 18) none (.lit 5 1) [.t 17],
      .op (some 19) none (.app 5 1 1) [.t 15, .t 18],
      .op (some 4) none .mv [.t 19]])
    .ret)))⟩
set_option maxRecDepth 100000 in
theorem af134 : compF Tryz.prog 134 = some AF134 := by kernel_rfl

/-- Function 73. -/
def AF73 : AF := ⟨8, [.tmp 4],
 (.seq
  (.reg [
    .op (some 4) none .mv [.c (.raw (.slice none 0 0))]])
  (.seq
   (.reg [
     .op (some 5) none .mv [.t 0],
     .op (some 6) none .mv [.t 1],
     .call (some 7) none 133 [.t 5, .t 6, .c (.int .i64 8)],
     .op (some 4) none .mv [.t 7]])
   .ret))⟩
set_option maxRecDepth 100000 in
theorem af73 : compF Tryz.prog 73 = some AF73 := by kernel_rfl

/-- Function 74. -/
def AF74 : AF := ⟨9, [.tmp 4],
 (.seq
  (.reg [
    .op (some 4) none .mv [.c (.raw (.slice none 0 0))]])
  (.seq
   (.reg [
     .op (some 5) none .mv [.t 0],
     .op (some 6) none .mv [.t 1],
     .op (some 7) none (.conv .u32) [.t 6],
     .call (some 8) none 75 [.t 5, .t 7],
     .op (some 4) none .mv [.t 8]])
   .ret))⟩
set_option maxRecDepth 100000 in
theorem af74 : compF Tryz.prog 74 = some AF74 := by kernel_rfl

/-- Function 75. -/
def AF75 : AF := ⟨9, [.tmp 4],
 (.seq
  (.reg [
    .op (some 4) none .mv [.c (.raw (.slice none 0 0))]])
  (.seq
   (.reg [
     .op (some 5) none .mv [.t 0],
     .op (some 6) none .mv [.t 1],
     .op (some 7) none (.conv .u64) [.t 6],
     .call (some 8) none 133 [.t 5, .t 7, .c (.int .i64 4)],
     .op (some 4) none .mv [.t 8]])
   .ret))⟩
set_option maxRecDepth 100000 in
theorem af75 : compF Tryz.prog 75 = some AF75 := by kernel_rfl

/-- Function 76. -/
def AF76 : AF := ⟨9, [.tmp 4],
 (.seq
  (.reg [
    .op (some 4) none .mv [.c (.raw (.slice none 0 0))]])
  (.seq
   (.reg [
     .op (some 5) none .mv [.t 0],
     .call (some 6) none 135 [.t 5],
     .op (some 7) none .mv [.t 1],
     .call (some 8) none 134 [.t 6, .t 7],
     .op (some 4) none .mv [.t 8]])
   .ret))⟩
set_option maxRecDepth 100000 in
theorem af76 : compF Tryz.prog 76 = some AF76 := by kernel_rfl

/-- Function 42. -/
def AF42 : AF := ⟨22, [.tmp 4],
 (.seq
  (.reg [
    .op (some 4) none .mv [.c (.raw (.slice none 0 0))]])
  (.seq
   (.reg [
     .op (some 6) none .mv [.t 0],
     .op (some 7) none .mv [.t 1],
     .call (some 8) none 78 [.t 6, .t 7],
     .op (some 5) none .mv [.t 8]])
   (.seq
    (.seq
     (.reg [
       .op (some 9) none .mv [.t 0],
       .call (some 10) none 79 [.t 9]])
     (.block 0
      (.seq
       (.reg [
         .op (some 12) none (.bin .eql) [.t 10, .c (.int .i64 1)],
         .op (some 11) none .mv [.t 12]])
       (.cond (.t 11)
        (.seq
         (.reg [
           .op (some 13) none .mv [.t 5],
           .call (some 14) none 80 [.c (.raw (.slice none 0 0)), .t 13, .c (.int .i64 8)],
           .op (some 4) none .mv [.t 14]])
         .ret)
        (.seq
         (.reg [
           .op (some 16) none (.bin .eql) [.t 10, .c (.int .i64 5)],
           .op (some 15) none .mv [.t 16]])
         (.cond (.t 15)
          (.seq
           (.reg [
             .op (some 17) none .mv [.t 5],
             .op (some 18) none (.bin .rem) [.t 17, .c (.int .u64 4294967296)],
             .call (some 19) none 80 [.c (.raw (.slice none 0 0)), .t 18, .c (.int .i64 4)],
             .op (some 4) none .mv [.t 19]])
           .ret)
          .skip))))))
    (.seq
     (.reg [
       .op (some 20) none .mv [.t 5],
       .call (some 21) none 81 [.t 20],
       .op (some 4) none .mv [.t 21]])
     .ret))))⟩
set_option maxRecDepth 100000 in
theorem af42 : compF Tryz.prog 42 = some AF42 := by kernel_rfl

/-- Function 78. -/
def AF78 : AF := ⟨27, [.tmp 4],
 (.seq
  (.reg [
    .op (some 4) none .mv [.c (.int .u64 0)]])
  (.seq
   (.seq
    (.reg [
      .op (some 5) none .mv [.t 0],
      .call (some 6) none 37 [.t 5],
      .op (some 7) none (.un .not) [.t 6]])
    (.cond (.t 7)
     (.seq
      (.reg [
        .op (some 4) none .mv [.c (.int .u64 0)]])
      .ret)
     .skip))
   (.seq
    (.seq
     (.reg [
       .op (some 8) none .mv [.t 0],
       .op (some 9) none (.bin .eql) [.t 8, .c (.int .i64 7)],
       .op (some 10) none .mv [.t 9],
       .op (some 11) (some (10, false)) .mv [.t 0],
       .op (some 12) (some (10, false)) (.bin .eql) [.t 11, .c (.int .i64 8)],
       .op (some 13) none .pick [.t 10, .c (.bool true), .t 12]])
     (.cond (.t 13)
      (.seq
       (.seq
        (.reg [
          .op (some 14) none .mv [.t 1],
          .op (some 15) none (.bin .lss) [.t 14, .c (.int .u64 9223372036854775808)]])
        (.cond (.t 15)
         (.seq
          (.reg [
            .op (some 16) none .mv [.t 1],
            .op (some 17) none (.bin .mul) [.t 16, .c (.int .u64 2)],
            .op (some 4) none .mv [.t 17]])
          .ret)
         .skip))
       (.seq
        (.reg [
          .op (some 18) none .mv [.t 1],
          .op (some 19) none (.bin .sub) [.c (.int .u64 18446744073709551615), .t 18],
          .op (some 20) none (.bin .mul) [.t 19, .c (.int .u64 2)],
          .op (some 21) none (.bin .add) [.t 20, .c (.int .u64 1)],
          .op (some 4) none .mv [.t 21]])
        .ret))
      .skip))
    (.seq
     (.seq
      (.reg [
        .op (some 22) none .mv [.t 0],
        .op (some 23) none (.bin .eql) [.t 22, .c (.int .i64 11)]])
      (.cond (.t 23)
       (.seq
        (.reg [
          .op (some 24) none .mv [.t 1],
          .op (some 25) none (.bin .rem) [.t 24, .c (.int .u64 4294967296)],
          .op (some 4) none .mv [.t 25]])
        .ret)
       .skip))
     (.seq
      (.reg [
        .op (some 26) none .mv [.t 1],
        .op (some 4) none .mv [.t 26]])
      .ret)))))⟩
set_option maxRecDepth 100000 in
theorem af78 : compF Tryz.prog 78 = some AF78 := by kernel_rfl

/-- Function 79. -/
def AF79 : AF := ⟨39, [.tmp 2],
 (.seq
  (.reg [
    .op (some 2) none .mv [.c (.int .i64 0)]])
  (.seq
   (.seq
    (.reg [
      .op (some 3) none .mv [.t 0],
      .op (some 4) none (.bin .lss) [.t 3, .c (.int .i64 1)],
      .op (some 5) none .mv [.t 4],
      .op (some 6) (some (5, false)) .mv [.t 0],
      .op (some 7) (some (5, false)) (.bin .gtr) [.t 6, .c (.int .i64 17)],
      .op (some 8) none .pick [.t 5, .c (.bool true), .t 7]])
    (.cond (.t 8)
     (.seq
      (.reg [
        .op (some 2) none .mv [.c (.int .i64 (-1))]])
      .ret)
     .skip))
   (.seq
    (.seq
     (.reg [
       .op (some 9) none .mv [.t 0],
       .op (some 10) none (.bin .eql) [.t 9, .c (.int .i64 1)],
       .op (some 11) none .mv [.t 10],
       .op (some 12) (some (11, false)) .mv [.t 0],
       .op (some 13) (some (11, false)) (.bin .eql) [.t 12, .c (.int .i64 10)],
       .op (some 14) none .pick [.t 11, .c (.bool true), .t 13],
       .op (some 15) none .mv [.t 14],
       .op (some 16) (some (15, false)) .mv [.t 0],
       .op (some 17) (some (15, false)) (.bin .eql) [.t 16, .c (.int .i64 12)],
       .op (some 18) none .pick [.t 15, .c (.bool true), .t 17]])
     (.cond (.t 18)
      (.seq
       (.reg [
         .op (some 2) none .mv [.c (.int .i64 1)]])
       .ret)
      .skip))
    (.seq
     (.seq
      (.reg [
        .op (some 19) none .mv [.t 0],
        .op (some 20) none (.bin .eql) [.t 19, .c (.int .i64 2)],
        .op (some 21) none .mv [.t 20],
        .op (some 22) (some (21, false)) .mv [.t 0],
        .op (some 23) (some (21, false)) (.bin .eql) [.t 22, .c (.int .i64 9)],
        .op (some 24) none .pick [.t 21, .c (.bool true), .t 23],
        .op (some 25) none .mv [.t 24],
        .op (some 26) (some (25, false)) .mv [.t 0],
        .op (some 27) (some (25, false)) (.bin .eql) [.t 26, .c (.int .i64 11)],
        .op (some 28) none .pick [.t 25, .c (.bool true), .t 27]])
      (.cond (.t 28)
       (.seq
        (.reg [
          .op (some 2) none .mv [.c (.int .i64 5)]])
        .ret)
       .skip))
     (.seq
      (.seq
       (.reg [
         .op (some 29) none .mv [.t 0],
         .op (some 30) none (.bin .eql) [.t 29, .c (.int .i64 14)],
         .op (some 31) none .mv [.t 30],
         .op (some 32) (some (31, false)) .mv [.t 0],
         .op (some 33) (some (31, false)) (.bin .eql) [.t 32, .c (.int .i64 15)],
         .op (some 34) none .pick [.t 31, .c (.bool true), .t 33],
         .op (some 35) none .mv [.t 34],
         .op (some 36) (some (35, false)) .mv [.t 0],
         .op (some 37) (some (35, false)) (.bin .eql) [.t 36, .c (.int .i64 17)],
         .op (some 38) none .pick [.t 35, .c (.bool true), .t 37]])
       (.cond (.t 38)
        (.seq
         (.reg [
           .op (some 2) none .mv [.c (.int .i64 2)]])
         .ret)
        .skip))
      (.seq
       (.reg [
         .op (some 2) none .mv [.c (.int .i64 0)]])
       .ret))))))⟩
set_option maxRecDepth 100000 in
theorem af79 : compF Tryz.prog 79 = some AF79 := by kernel_rfl

/-- Function 80. -/
def AF80 : AF := ⟨26, [.tmp 6],
 (.seq
  (.reg [
    .op (some 6) none .mv [.c (.raw (.slice none 0 0))]])
  (.seq
   (.reg [
     .op (some 9) none (.lit 5 1) [],
     .op (some 10) none .mv [.t 0],
     .op (some 11) none (.app 5 1 1) [.t 9, .t 10],
     .op (some 7) none .mv [.t 11]])
   (.seq
    (.seq
     (.reg [
       .op (some 8) none .mv [.c (.int .i64 0)]])
     (.block 0
      (.loop
       (.seq
        (.seq
         (.reg [
           .op (some 12) none .mv [.t 8],
           .op (some 13) none .mv [.t 2],
           .op (some 14) none (.bin .lss) [.t 12, .t 13]])
         (.cond (.t 14)
          .skip
          (.exit 0)))
        (.seq
         (.block 1
          (.seq
           (.reg [
             .op (some 17) none .mv [.t 7],
             .op (some 18) none .mv [.t 1],
             .op (some 19) none (.bin .rem) [.t 18, .c (.int .u64 256)],
             .op (some 20) none (.conv .u8) [.t 19],
             .op (some 21) none (.lit 5 1) [.t 20],
             .op (some 22) none (.app 5 1 1) [.t 17, .t 21],
             .op (some 7) none .mv [.t 22]])
           (.reg [
             .op (some 23) none .mv [.t 1],
             .op (some 24) none (.bin .quo) [.t 23, .c (.int .u64 256)],
             .op (some 1) none .mv [.t 24]])))
         (.reg [
           .op (some 15) none .mv [.t 8],
           .op (some 16) none (.bin .add) [.t 15, .c (.int .i64 1)],
           .op (some 8) none .mv [.t 16]]))))))
    (.seq
     (.reg [
       .op (some 25) none .mv [.t 7],
       .op (some 6) none .mv [.t 25]])
     .ret))))⟩
set_option maxRecDepth 100000 in
theorem af80 : compF Tryz.prog 80 = some AF80 := by kernel_rfl

/-- Function 81. -/
def AF81 : AF := ⟨17, [.tmp 2],
 (.seq
  (.reg [
    .op (some 2) none .mv [.c (.raw (.slice none 0 0))]])
  (.seq
   (.seq
    (.reg [
      .op (some 3) none .mv [.t 0],
      .op (some 4) none (.bin .lss) [.t 3, .c (.int .u64 128)]])
    (.cond (.t 4)
     (.seq
      (.reg [
        .op (some 5) none .mv [.t 0],
        .op (some 6) none (.conv .u8) [.t 5],
        .op (some 7) none (.lit 5 1) [.t 6],
        .op (some 2) none .mv [.t 7]])
      .ret)
     .skip))
   (.seq
    (.reg [
      .op (some 8) none .mv [.t 0],
      .op (some 9) none (.bin .rem) [.t 8, .c (.int .u64 128)],
      .op (some 10) none (.bin .add) [.t 9, .c (.int .u64 128)],
      .op (some 11) none (.conv .u8) [.t 10],
      .op (some 12) none (.lit 5 1) [.t 11],
      .op (some 13) none .mv [.t 0],
      .op (some 14) none (.bin .quo) [.t 13, .c (.int .u64 128)],
      .call (some 15) none 81 [.t 14],
      .op (some 16) none (.app 5 1 1) [.t 12, .t 15],
      .op (some 2) none .mv [.t 16]])
    .ret)))⟩
set_option maxRecDepth 100000 in
theorem af81 : compF Tryz.prog 81 = some AF81 := by kernel_rfl

/-- Function 18. -/
def AF18 : AF := ⟨30, [.tmp 4],
 (.seq
  (.reg [
    .op (some 4) none .mv [.c (.raw (.slice none 0 0))]])
  (.seq
   (.seq
    (.reg [
      .op (some 9) none .mv [.t 0],
      .call (some 10) none 38 [.t 9],
      .op (some 11) none (.un .not) [.t 10]])
    (.cond (.t 11)
     (.seq
      (.reg [
        .op (some 4) none .mv [.c (.raw (.slice none 0 0))]])
      .ret)
     .skip))
   (.seq
    (.reg [
      .op (some 12) none .mv [.t 0],
      .call (some 13) none 40 [.t 12],
      .call (some 14) none 39 [.t 13],
      .op (some 5) none .mv [.t 14]])
    (.seq
     (.reg [
       .op (some 6) none .mv [.c (.raw (.slice none 0 0))]])
     (.seq
      (.seq
       (.reg [
         .op (some 15) none .mv [.t 1],
         .op (some 16) none .len [.t 15],
         .op (some 17) none .mv [.c (.int .i64 0)]])
       (.block 0
        (.loop
         (.seq
          (.reg [
            .op (some 18) none (.bin .lss) [.t 17, .t 16]])
          (.seq
           (.cond (.t 18)
            .skip
            (.exit 0))
           (.seq
            (.block 1
             (.seq
              (.reg [
                .op (some 19) none (.idxa 1) [.t 15, .t 17],
                .op (some 20) none (.load 1 false) [.t 19],
                .op (some 8) none .mv [.t 20]])
              (.reg [
                .op (some 21) none .mv [.t 6],
                .op (some 22) none .mv [.t 5],
                .op (some 23) none .mv [.t 0],
                .op (some 24) none .mv [.t 8],
                .call (some 25) none 41 [.t 23, .t 24],
                .dyn (some 26) none (.t 22) [.c (.raw (.slice none 0 0)), .t 25],
                .op (some 27) none (.app 5 1 1) [.t 21, .t 26],
                .op (some 6) none .mv [.t 27]])))
            (.reg [
              .op (some 28) none (.bin .add) [.t 17, .c (.int .i64 1)],
              .op (some 17) none .mv [.t 28]])))))))
      (.seq
       (.reg [
         .op (some 29) none .mv [.t 6],
         .op (some 4) none .mv [.t 29]])
       .ret))))))⟩
set_option maxRecDepth 100000 in
theorem af18 : compF Tryz.prog 18 = some AF18 := by kernel_rfl

/-- Function 19. -/
def AF19 : AF := ⟨24, [.tmp 4],
 (.seq
  (.reg [
    .op (some 4) none .mv [.c (.raw (.slice none 0 0))]])
  (.seq
   (.reg [
     .op (some 8) none (.lit 5 1) [],
     .op (some 5) none .mv [.t 8]])
   (.seq
    (.seq
     (.reg [
       .op (some 9) none .mv [.t 1],
       .op (some 10) none .len [.t 9],
       .op (some 11) none .mv [.c (.int .i64 0)]])
     (.block 0
      (.loop
       (.seq
        (.reg [
          .op (some 12) none (.bin .lss) [.t 11, .t 10]])
        (.seq
         (.cond (.t 12)
          .skip
          (.exit 0))
         (.seq
          (.block 1
           (.seq
            (.reg [
              .op (some 13) none (.idxa 1) [.t 9, .t 11],
              .op (some 14) none (.load 1 false) [.t 13],
              .op (some 7) none .mv [.t 14]])
            (.seq
             (.reg [
               .op (some 15) none .mv [.t 0],
               .call (some 16) none 37 [.t 15]])
             (.cond (.t 16)
              (.reg [
                .op (some 17) none .mv [.t 5],
                .op (some 18) none .mv [.t 0],
                .op (some 19) none .mv [.t 7],
                .call (some 20) none 42 [.t 18, .t 19],
                .op (some 21) none (.app 5 1 1) [.t 17, .t 20],
                .op (some 5) none .mv [.t 21]])
              .skip))))
          (.reg [
            .op (some 22) none (.bin .add) [.t 11, .c (.int .i64 1)],
            .op (some 11) none .mv [.t 22]])))))))
    (.seq
     (.reg [
       .op (some 23) none .mv [.t 5],
       .op (some 4) none .mv [.t 23]])
     .ret))))⟩
set_option maxRecDepth 100000 in
theorem af19 : compF Tryz.prog 19 = some AF19 := by kernel_rfl
end Go.Proofs

